/-
  What is proved: lemmas and contracts of functions on the way to the law topChockBack (part 7).
-/
import Derived.Test.YtfmnmoiaemejjaaGreatVrA5
import Derived.Test.YtfmnmoiaemejjaaGreatVrA6
import Derived.Test.YtfmnmoiaemejjaaGreatVrA3
import Derived.Test.YtfmnmoiaemejjaaGreatVrA2
set_option linter.unusedSectionVars false
set_option linter.unusedSimpArgs false
set_option linter.unusedVariables false
set_option linter.unnecessarySimpa false
set_option linter.deprecated false
set_option maxRecDepth 10000
namespace Go.Sim
open Go.Proofs
def ofL (a0 : S2062) (ms : List S1079) : List Int := (ms.filter fun m => qag a0 m.Kind m.Terminal).map S1079.Moment
theorem qv0 : tyK Tryz.prog 191 = some (2, true) := by kernel_rfl
theorem q6q : vq Tryz.prog 191 = some [.string ⟨#[]⟩, .string ⟨#[]⟩] := by kernel_rfl
theorem q6r : Tryz.prog.underlying 190 = some (.map 191 4) := by kernel_rfl
theorem q3t : appK Tryz.prog 132 = some (3, 1, 8) := by kernel_rfl
theorem zbk : Tryz.prog.underlying 132 = some (.slice 3) := by kernel_rfl
theorem kzi4 : (Tryz.prog.info? 4).bind (·.zero) = some (.bool false) := by kernel_rfl
def MOk (a0 : S2062) (m : List ((ByteArray × ByteArray) × Bool)) : Prop := ∀ p ∈ m, ok2 p.1 ∧ p.2 = qag a0 p.1.1 p.1.2
theorem qn7 {K V : Type} [DecidableEq K] {k : K} {v : V} : ∀ {m : List (K × V)}, mget m k = some v → (k, v) ∈ m
 | [], h => by cases h
 | (a, b) :: m, h => by
  unfold mget at h
  by_cases e : a = k
  ·rw [decide_eq_true e] at h; cases h; subst e; exact List.mem_cons_self
  ·rw [decide_eq_false e] at h; exact List.mem_cons_of_mem _ (qn7 h)
theorem qsd {K V : Type} [DecidableEq K] {k : K} {v : V} {p : K × V} : ∀ {m : List (K × V)}, p ∈ mset m k v → p ∈ m ∨ p = (k, v)
 | [], h => by simp [mset] at h; exact .inr h
 | (a, b) :: m, h => by
  unfold mset at h
  by_cases e : a = k
  ·rw [decide_eq_true e] at h
   rcases List.mem_cons.1 h with h | h
   ·exact .inr h
   ·exact .inl (List.mem_cons_of_mem _ h)
  ·rw [decide_eq_false e] at h
   rcases List.mem_cons.1 h with h | h
   ·exact .inl (by rw [h]; exact List.mem_cons_self)
   ·rcases qsd h with h | h
    ·exact .inl (List.mem_cons_of_mem _ h)
    ·exact .inr h
theorem MOk.set {a0 : S2062} {m : List ((ByteArray × ByteArray) × Bool)} {k : ByteArray × ByteArray} (h : MOk a0 m) (hk : ok2 k) : MOk a0 (mset m k (qag a0 k.1 k.2)) := fun p hp => by
 rcases qsd hp with hp | rfl
 ·exact h p hp
 ·exact ⟨hk, U⟩
theorem agg2 {w : World} {M : Nat → Prop} {ρ : Rho} {p : ByteArray × ByteArray} {u : Value} (h : TRel w M ρ (.g (G.agg [G.str p.1, G.str p.2])) u) : u = kf2 p := by
 obtain ⟨vs, rfl, h⟩ := h
 match vs, h with
 | [a, b], ⟨⟨h1, _⟩, ⟨h2, _⟩, _⟩ =>
  have h1 : a = .string p.1 := h1;have h2 : b = .string p.2 := h2;rw [h1, h2]; rfl
theorem q6s {g : GL} (a0 : S2062) (a1 : List S1079) (hk : (vd kindL a0.Kind none).isSome = true) (hsz : ∀ m ∈ a1, m.Kind.size ≤ 1000 ∧ m.Terminal.size ≤ 1000) (hb : a1.length ≤ 1000) :
  Con (EG g) 63 [G.agg (limG a0), G.sl 7 (List.map S1079.c a1)] (G.sl 1 (List.map cInt (ofL a0 a1))) := by
 refine qm Tryz.func63 U U fun w0 M0 => ?_;refine qb<|qa [.p, .w]<|st U U (zi U U) U<|st_w U U (xa 4 3 1 U U U) U<|qd<|qb<|qa [.w]<|st_w U U (xa 5 3 1 U U U) U<|qd<|qb<|qa [.w, .p]<|st_w U U (qfr 6 U U) U<|st U U (qfv U U) U<|qd<|qb<|qb<|qa [.p, .p, .p]<|st U U (qj U U) U<|st U U (zb (f := S1079.c) (l := a1) U Tryz.underlying48 U) U<|st U U (qj U U) U<|qd<|qp ?_
 refine zf (γ := Nat × List S1079 × List Int × List ((ByteArray × ByteArray) × Bool)) (fun g => ([(2, .g (G.ref (limG a0))), (5, .osl 5 1 0 (List.length g.2.2.1)), (6, .omap 6), (13, .g (G.sl 7 (List.map S1079.c a1))), (14, .g (G.int (List.length a1 : Int))), (15, .g (G.int ((g.1 : Nat) : Int)))],
  [(5, .arr 3 1 (List.map cInt g.2.2.1)), (6, mpB kf2 G.bool g.2.2.2)]))
  (fun g => g.2.2.1.length ≤ g.1 ∧ MOk a0 g.2.2.2 ∧ a1.drop g.1 = g.2.1 ∧ g.2.2.1 ++ ofL a0 g.2.1 = ofL a0 a1) (fun g => List.length g.2.1) ⟨rfl, (0, a1, [], []), ⟨rfl, rfl, rfl, rfl, rfl, rfl, trivial⟩, ⟨rfl, rfl, trivial⟩, rfl, ⟨Nat.zero_le _, fun _ h => by (cases h), rfl, rfl⟩, trivial⟩ ?_
 rintro ⟨k, tl, out, mm⟩ ⟨iv, hM, hd, hR⟩;replace iv : out.length ≤ k := iv;replace hM : MOk a0 mm := hM;replace hd : a1.drop k = tl := hd;replace hR : out ++ ofL a0 tl = ofL a0 a1 := hR;have hmk : ∀ p ∈ mm, ok2 p.1 := fun p hp => (hM p hp).1;refine qb<|qa [.p]<|st U U (zd U U U) U<|qd<|qb ?_;refine ql _ U (fun h1 => ?_) (fun h1 => ?_)
 ·replace h1 : (decide (((k : Nat) : Int) < (List.length a1 : Int))) = true := h1;obtain ⟨y, tl, rfl, hx1, hd⟩ := zq hd (decT h1);replace h1 := decT h1
  have hok : ok2 (y.Kind, y.Terminal) := by
   have hm : y ∈ a1 := List.mem_of_getElem? hx1;exact hsz y hm
  refine qn<|qb<|qp<|qb<|qa [.p, .p, .w, .w]<|st U U (z5 (f := S1079.c) (l := a1) (a := y) U Tryz.underlying48 z7 U U (Int.natCast_nonneg _) hx1) U<|st U U (qr U z7 U U U) U<|st_w U U (zm 8 U qlj U U) U<|je U U (qw (tv := .g (G.agg (S1079.c y))) U z7 U U U U U)<|qd<|qgp (l := [(2, .g (G.ref (limG a0))), (5, .osl 5 1 0 (List.length out)), (6, .omap 6), (8, .g (G.ref (S1079.c y))), (13, .g (G.sl 7 (List.map S1079.c a1))), (14, .g (G.int (List.length a1 : Int))), (15, .g (G.int ((k : Nat) : Int)))]) (m := [(5, .arr 3 1 (List.map cInt out)), (6, mpB kf2 G.bool mm)]) 8 U ⟨.inl ⟨U, U⟩, .inl ⟨U, U⟩, .inl ⟨U, U⟩, .inr (qft U), .inl ⟨U, U⟩, .inl ⟨U, U⟩, .inl ⟨U, U⟩, O⟩ ⟨U, U, O⟩ U U<|qb<|qa [.p, .p, .p, .p, .p, .w, .w]<|st U U (qc U qcz U) U<|st U U (qf U ty9 U) U<|st U U (qc U qjj U) U<|st U U (qf U ty9 U) U<|st U U (qci U q6q U u167 ty9 (zp U (zp U kx)) U) U<|st_w U U (zm 9 U q6q U U) U<|je U U (qw (tv := .g (G.agg [G.str y.Kind, G.str y.Terminal])) U qv0 U U U U U)<|qd<|qgp (l := [(2, .g (G.ref (limG a0))), (5, .osl 5 1 0 (List.length out)), (6, .omap 6), (8, .g (G.ref (S1079.c y))), (9, .g (G.ref [G.str y.Kind, G.str y.Terminal])), (13, .g (G.sl 7 (List.map S1079.c a1))), (14, .g (G.int (List.length a1 : Int))), (15, .g (G.int ((k : Nat) : Int)))]) (m := [(5, .arr 3 1 (List.map cInt out)), (6, mpB kf2 G.bool mm)]) 9 U ⟨.inl ⟨U, U⟩, .inl ⟨U, U⟩, .inl ⟨U, U⟩, .inl ⟨U, U⟩, .inr (qft U), .inl ⟨U, U⟩, .inl ⟨U, U⟩, .inl ⟨U, U⟩, O⟩ ⟨U, U, O⟩ U U<|qb<|qa [.p, .p, .r, .p, .p, .p, .p, .p]<|st U U (qcr U U) U<|st U U (qr U qv0 U U U) U<|st_r U U (qpo (k := (y.Kind, y.Terminal)) (z := false) ko2 hok hmk U q6r kzi4 (fun _ _ => U) U (fun _ _ _ _ h => agg2 h) U) U<|st U U (qj U U) U<|st U U (qv U U U) U<|st U U (qv U U U) U<|st U U (jb U U) U<|st U U (jb U U) U<|qd ?_;refine ko (γ := List ((ByteArray × ByteArray) × Bool)) (fun mm => ([(2, .g (G.ref (limG a0))), (5, .osl 5 1 0 (List.length out)), (6, .omap 6), (8, .g (G.ref (S1079.c y))), (10, .g (G.bool (qag a0 y.Kind y.Terminal))), (13, .g (G.sl 7 (List.map S1079.c a1))), (14, .g (G.int (List.length a1 : Int))), (15, .g (G.int ((k : Nat) : Int)))], [(5, .arr 3 1 (List.map cInt out)), (6, mpB kf2 G.bool mm)])) (fun mm => MOk a0 mm) ?_ ?_
  ·refine qb<|qa [.p, .p]<|st U U (qj U U) U<|st U U (jo U U) U<|qd ?_;refine ql _ U (fun h2 => ?_) (fun h2 => ?_)
   ·refine qb<|qa [.p, .p, .p, .p, .p, .p, .p]<|st U U (qr U vy U U U) U<|st U U (qc U qcz U) U<|st U U (qf U ty9 U) U<|st U U (qc U qjj U) U<|st U U (qf U ty9 U) U<|st U U (qg U q2y U (q3u a0 y.Kind y.Terminal hk) (qe U (qe U (qe U qk)))) U<|st U U (jb U U) U<|qd<|qa [.p, .p, .p, .w]<|st U U (qcr U U) U<|st U U (qr U qv0 U U U) U<|st U U (qj U U) U<|je U U (qq4 (k := (y.Kind, y.Terminal)) (v := qag a0 y.Kind y.Terminal) (ins := false) ko2 hok hmk U q6r U (fun _ _ _ _ h => agg2 h) U U)<|qd ?_;exact ⟨U, mset mm (y.Kind, y.Terminal) (qag a0 y.Kind y.Terminal), ⟨U, U, U, U, U, U, U, U, O⟩, ⟨U, U, O⟩, U, hM.set hok, O⟩
   ·have h2 : (!(mhas mm (y.Kind, y.Terminal))) = false := h2
    have hv : vd mm (y.Kind, y.Terminal) false = qag a0 y.Kind y.Terminal := by
     unfold mhas at h2
     cases hq : mget mm (y.Kind, y.Terminal) with
     | none => rw [hq] at h2; cases h2
     | some v =>
      unfold vd;rw [hq];exact (hM _ (qn7 hq)).2
    refine qn ?_;exact ⟨U, mm, ⟨U, U, U, U, congrArg (fun b => TV.g (G.bool b)) hv, U, U, U, O⟩, ⟨U, U, O⟩, U, hM, O⟩
  ·intro mm hM;refine qb<|qa [.p]<|st U U (qj U U) U<|qd ?_;refine ql _ U (fun h2 => ?_) (fun h2 => ?_)
   ·have h2 : qag a0 y.Kind y.Terminal = true := h2
    have hlen : out.length ≤ 1000 := by
     have := (List.getElem?_eq_some_iff.1 hx1).1
     omega
    refine qa [.p, .p, .p, .p, .k, .p]<|st U U (zg U U) U<|st U U (qc U wd U) U<|st U U (qf U ty3 U) U ?_;refine st U U (qt U zbk ty3 z3 U (qx U jp) U (by simp []) (by decide)) U ?_;refine st_k U U (xb (f := cInt) (out := out) (new := [y.Moment]) U q3t U U (qa6 U (qa5 (by decide) (by simp []))) (qq5 U) (by simp; omega)) U ?_;refine st U U (ja U U) U<|qd<|qa [.p, .p]<|st U U (zn U U U (by unfold I64; omega)) U<|st U U (qj U U) U<|qd ?_;refine ⟨U, (k + 1, tl, out ++ [y.Moment], mm), ⟨U, U, U, U, U, U, O⟩, ⟨U, U, O⟩, U, ⟨?_, hM, hd, ?_⟩, by simp⟩
    ·simp; omega
    ·rw [← hR]; simp [ofL, h2]
   ·have h2 : qag a0 y.Kind y.Terminal = false := h2;refine qn<|qa [.p, .p]<|st U U (zn U U U (by unfold I64; omega)) U<|st U U (qj U U) U<|qd ?_;refine ⟨U, (k + 1, tl, out, mm), ⟨U, U, U, U, U, U, O⟩, ⟨U, U, O⟩, U, ⟨?_, hM, hd, ?_⟩, by simp⟩
    ·show out.length ≤ k + 1; omega
    ·rw [← hR]; simp [ofL, h2]
 ·replace h1 : (decide (((k : Nat) : Int) < (List.length a1 : Int))) = false := h1;obtain rfl := zz hd (decF h1)
  have hR : out = ofL a0 a1 := by rw [← hR]; simp [ofL]
  refine zw<|qb<|qa [.p, .p]<|st U U (zg U U) U<|st U U (ja U U) U<|qd<|qo ?_;rw [← hR];exact za U (qc8 U U)
theorem qv1 {s : ByteArray} {i : Nat} (h : (s.get! i).toNat < 128) : Utf8.decode s i = ((s.get! i).toNat, 1) := by
 unfold Utf8.decode
 simp [h]
theorem qv2 {s : ByteArray} {i : Nat} (h : 128 ≤ (s.get! i).toNat) : 128 ≤ (Utf8.decode s i).1 := by
 unfold Utf8.decode;simp only [Nat.add_zero];rw [if_neg (by omega)]
 repeat' split
 all_goals first | assumption | (simp [Utf8.runeError]; done) | (rename_i h2; simp only [Bool.and_eq_true, decide_eq_true_eq] at h2; have h3 := h2.1; dsimp only; omega)
theorem qtt {s : ByteArray} {i : Nat} (h : i < s.data.toList.length) : s.get! i = s.data.toList[i] := by
 have h' : i < s.data.size := by simpa using h
 show s.data[i]! = _;rw [getElem!_pos s.data i h']
 simp
theorem qv3 (s : ByteArray) : ∀ n pos, s.size ≤ pos + n → qeh (qkt s n pos) = qik (s.data.toList.drop pos) pos := by
 intro n
 induction n with
 | zero =>
  intro pos h;rw [List.drop_eq_nil_of_le (by simpa using h)]; rfl
 | succ n ih =>
  intro pos h;unfold qkt
  split
  ·rename_i hp
   have hl : pos < s.data.toList.length := by simpa using hp
   rw [List.drop_eq_getElem_cons hl, qeh, qik, ← qtt hl]
   rcases Nat.lt_or_ge (s.get! pos).toNat 128 with hb | hb
   ·rw [qv1 hb, ih (pos + 1) (by omega)];have e1 : (decide (((pos : Nat) : Int) = 0)) = decide ((pos : Int) = 0) := rfl;dsimp only;rw [Bool.or_comm ((decide ((65 : Int) ≤ _)) && _)]
   ·have hb2 := qv2 hb
    have c1 : (!(((decide ((65 : Int) ≤ ((Utf8.decode s pos).1 : Int))) && (decide (((Utf8.decode s pos).1 : Int) ≤ 90))) || ((decide ((97 : Int) ≤ ((Utf8.decode s pos).1 : Int))) && (decide (((Utf8.decode s pos).1 : Int) ≤ 122))))) = true := by
     simp; omega
    have c2 : (!(((decide ((97 : Int) ≤ ((s.get! pos).toNat : Int))) && (decide (((s.get! pos).toNat : Int) ≤ 122))) || ((decide ((65 : Int) ≤ ((s.get! pos).toNat : Int))) && (decide (((s.get! pos).toNat : Int) ≤ 90))))) = true := by
     simp; omega
    dsimp only;rw [c1, c2]
    have d1 : (decide (((Utf8.decode s pos).1 : Int) ≠ 95) && (decide (((Utf8.decode s pos).1 : Int) < 48) || decide (57 < ((Utf8.decode s pos).1 : Int)))) = true := by simp; omega
    have d2 : (decide (((s.get! pos).toNat : Int) ≠ 95) && (decide (((s.get! pos).toNat : Int) < 48) || decide (57 < ((s.get! pos).toNat : Int)))) = true := by simp; omega
    rw [d1, d2]; simp
  ·rename_i hp
   rw [List.drop_eq_nil_of_le (by simpa using hp)]; rfl
theorem qdy (s : ByteArray) : s147 s = s91 s := by
 unfold s147 s91 qzh;rw [qv3 s _ 0 (by omega)]; rfl
theorem qv4 {α : Type} {l : List α} {i : Nat} (h : i < l.length) : ixO l (i : Int) = some l[i] := by
 unfold ixO; rw [decide_eq_true (by omega), cond_true]; simp [h]
theorem qv5 (a b : Int) : qpp a b = decide (a < b) := by
 have h : ∀ x, s202 x = false := fun x => by unfold s202; simp
 unfold qpp; rw [h]; simp
theorem qse (t : Int) : ∀ {ms : List Int}, ms.Pairwise (· ≤ ·) → ∀ i (hi : i < ms.length), (ms[i] < t ↔ i < (ms.takeWhile (fun x => decide (x < t))).length)
 | [], _, i, hi => by simp at hi
 | x :: ms, h, i, hi => by
  rw [List.pairwise_cons] at h
  by_cases hx : x < t
  ·rw [List.takeWhile_cons_of_pos (by simp [hx])]
   cases i with
   | zero => simp [hx]
   | succ i =>
    have := qse t h.2 i (by simpa using hi);simp only [List.getElem_cons_succ, List.length_cons]
    omega
  ·rw [List.takeWhile_cons_of_neg (by simp [hx])]
   cases i with
   | zero => simp; omega
   | succ i =>
    have := h.1 (ms[i]'(by simpa using hi)) (List.getElem_mem _);simp only [List.getElem_cons_succ, List.length_nil]
    omega
theorem qn8 (t : Int) {ms : List Int} (h : ms.Pairwise (· ≤ ·)) (p : Nat) (hp : p = (ms.takeWhile (fun x => decide (x < t))).length) : ∀ (k lo hi : Nat), lo ≤ p → p ≤ hi → hi ≤ ms.length → hi - lo < k → ∃ b, qbz ms t k (lo : Int) (hi : Int) = some ((p : Int), b)
 | 0, lo, hi, _, _, _, h => by omega
 | k + 1, lo, hi, h1, h2, h3, h4 => by
  rw [qbz]
  by_cases hc : lo < hi
  ·rw [decide_eq_true (by omega : (lo : Int) < (hi : Int)), cond_true]
   have e : ((lo : Int) + (hi : Int)) / 2 = (((lo + hi) / 2 : Nat) : Int) := by omega
   have hlt : (lo + hi) / 2 < ms.length := by omega
   rw [e, qv4 hlt];simp only [zc];rw [qv5];have hi' := qse t h ((lo + hi) / 2) hlt;rw [← hp] at hi'
   by_cases hm : ms[(lo + hi) / 2] < t
   ·rw [decide_eq_true hm, cond_true, show ((((lo + hi) / 2 : Nat) : Int) + 1) = (((lo + hi) / 2 + 1 : Nat) : Int) by push_cast; rfl];exact qn8 t h p hp k _ _ (by have := hi'.1 hm; omega) h2 h3 (by omega)
   ·rw [decide_eq_false hm, cond_false];exact qn8 t h p hp k _ _ h1 (by have : ¬ (lo + hi) / 2 < p := fun q => hm (hi'.2 q); omega) (by omega) (by omega)
  ·have e1 : lo = p := by omega
   subst e1;rw [decide_eq_false (by omega : ¬ (lo : Int) < (hi : Int)), cond_false]
   by_cases hl : lo < ms.length
   ·rw [decide_eq_true (by omega : (lo : Int) < (ms.length : Int)), cond_true, qv4 hl];simp only [zc, Bool.true_and]
    cases hq : (!(decide (ms[lo] = t)))
    ·exact ⟨_, U⟩
    ·exact ⟨_, U⟩
   ·rw [decide_eq_false (by omega : ¬ (lo : Int) < (ms.length : Int)), cond_false];simp only [zc, Bool.false_and, cond_false];exact ⟨_, U⟩
theorem qpq (t : Int) : ∀ {ms : List Int}, ms.Pairwise (· ≤ ·) → (ms.takeWhile (fun x => decide (x < t))).length = (ms.filter (fun x => decide (x < t))).length
 | [], _ => rfl
 | x :: ms, h => by
  rw [List.pairwise_cons] at h
  by_cases hx : x < t
  ·rw [List.takeWhile_cons_of_pos (by simp [hx]), List.filter_cons_of_pos (by simp [hx]), List.length_cons, List.length_cons, qpq t h.2]
  ·rw [List.takeWhile_cons_of_neg (by simp [hx]), List.filter_cons_of_neg (by simp [hx])]
   symm
   rw [List.length_nil, List.length_eq_zero_iff, List.filter_eq_nil_iff];intro y hy;have := h.1 y hy
   simp; omega
def cntI (ms : List Int) (b len : Int) : Int := ((ms.filter (fun x => decide (b ≤ x) && decide (x < b + len))).length : Nat)
theorem qku (b len : Int) (hl : 0 ≤ len) : ∀ (ms : List Int), ((ms.filter (fun x => decide (x < b + len))).length : Int) - (ms.filter (fun x => decide (x < b))).length = cntI ms b len
 | [] => rfl
 | x :: ms => by
  have ih := qku b len hl ms;unfold cntI at ih ⊢;simp only [List.filter_cons]
  by_cases h1 : x < b
  ·have h2 : x < b + len := by omega
   have h3 : ¬ b ≤ x := by omega
   simp only [h1, h2, h3, decide_true, decide_false, if_true, Bool.false_and, Bool.false_eq_true, if_false, List.length_cons]
   push_cast; omega
  ·by_cases h2 : x < b + len
   ·have h3 : b ≤ x := by omega
    simp only [h1, h2, h3, decide_true, decide_false, if_true, Bool.true_and, Bool.and_self, Bool.false_eq_true, if_false, List.length_cons]
    push_cast; omega
   ·simp only [h1, h2, decide_false, if_true, Bool.and_false, Bool.false_eq_true, if_false];exact ih
theorem qsf {ms : List Int} (h : ms.Pairwise (· ≤ ·)) (t : Int) : qtu ms t = some ((ms.filter (fun x => decide (x < t))).length : Int) := by
 unfold qtu qzk;obtain ⟨b, hb⟩ := qn8 t h _ rfl (((List.length ms : Int) - 0).toNat + 1) 0 ms.length (Nat.zero_le _) (List.takeWhile_sublist _).length_le (Nat.le_refl _) (by omega);have hb : qbz ms t (((List.length ms : Int) - 0).toNat + 1) 0 (List.length ms : Int) = _ := hb;rw [hb, qpq t h]
 rfl
theorem qsg {ms : List Int} (h : ms.Pairwise (· ≤ ·)) (hl : ms.length ≤ 1000) {b len : Int} (hb : 0 ≤ b) (hb2 : b ≤ 2000000000) (hlen : 0 ≤ len) (hlen2 : len ≤ 1440) : qzl ms b len = some (cntI ms b len) := by
 unfold qzl;rw [wrap_i64 (by unfold I64; omega), qsf h, qsf h];simp only [zc];have h1 := List.length_filter_le (fun x => decide (x < b + len)) ms;have h2 := List.length_filter_le (fun x => decide (x < b)) ms;rw [wrap_i64 (by unfold I64; omega), qku b len hlen]
structure LimOk (a : S2062) : Prop where
 k : (vd kindL a.Kind none).isSome = true
 s0 : 1 ≤ a.Step
 s1 : a.Step ≤ 1440
 l0 : 1 ≤ a.Length
 l1 : a.Length ≤ 1440
 f0 : 0 ≤ a.fFrom
 f1 : a.fFrom ≤ 1439
 t0 : 0 ≤ a.fTo
 t1 : a.fTo ≤ 1439
 p0 : 0 ≤ a.Period.fFrom
 p1 : a.Period.fTo ≤ 1000000
 m0 : 0 ≤ a.Most
 m1 : a.Most ≤ 999999999
theorem q3v {a : S2062} (h : LimOk a) : bF a = (a.fFrom + a.Step - 1) / a.Step ∧ 0 ≤ bF a ∧ bF a ≤ 3000 ∧ a.fFrom ≤ a.Step * bF a := by
 have h1 := h.s0; have h2 := h.s1; have h3 := h.f0; have h4 := h.f1
 have e : bF a = (a.fFrom + a.Step - 1) / a.Step := by
  unfold bF;rw [wrap_i64 (n := a.fFrom + a.Step) (by unfold I64; omega), wrap_i64 (n := a.fFrom + a.Step - 1) (by unfold I64; omega), Int.tdiv_eq_ediv_of_nonneg (by omega)];have b1 : 0 ≤ (a.fFrom + a.Step - 1) / a.Step := Int.ediv_nonneg (by omega) (by omega);have b2 : (a.fFrom + a.Step - 1) / a.Step ≤ a.fFrom + a.Step - 1 := Int.ediv_le_self _ (by omega);rw [wrap_i64 (by unfold I64; omega)]
 have b1 : 0 ≤ (a.fFrom + a.Step - 1) / a.Step := Int.ediv_nonneg (by omega) (by omega);have b2 : (a.fFrom + a.Step - 1) / a.Step ≤ a.fFrom + a.Step - 1 := Int.ediv_le_self _ (by omega);have b3 := Int.emod_add_mul_ediv (a.fFrom + a.Step - 1) a.Step;have b4 := Int.emod_lt_of_pos (a.fFrom + a.Step - 1) (show 0 < a.Step by omega);refine ⟨e, by omega, by omega, ?_⟩;rw [e]; omega
theorem q6t {a : S2062} (h : LimOk a) : bN a = max 0 (a.fTo / a.Step - bF a + 1) := by
 obtain ⟨_, h5, h6, _⟩ := q3v h;have h1 := h.s0; have h3 := h.t0; have h4 := h.t1;have b1 : 0 ≤ a.fTo / a.Step := Int.ediv_nonneg (by omega) (by omega);have b2 : a.fTo / a.Step ≤ a.fTo := Int.ediv_le_self _ (by omega);unfold bN;rw [Int.tdiv_eq_ediv_of_nonneg (by omega), wrap_i64 (n := a.fTo / a.Step) (by unfold I64; omega), wrap_i64 (n := a.fTo / a.Step - bF a) (by unfold I64; omega), wrap_i64 (by unfold I64; omega)]
theorem q6u {a : S2062} (h : LimOk a) {d : Int} (hd : 0 ≤ d) (hd2 : d ≤ 1000000) {n : Nat} (hn : n < (bN a).toNat) : bAt a d n = 1440 * d + a.Step * (bF a + n) ∧ a.fFrom ≤ a.Step * (bF a + n) ∧ a.Step * (bF a + n) ≤ a.fTo := by
 obtain ⟨_, h5, h6, h7⟩ := q3v h;have hbn := q6t h;have h1 := h.s0; have h2 := h.s1; have h3 := h.t0; have h4 := h.t1;have b2 : a.fTo / a.Step ≤ a.fTo := Int.ediv_le_self _ (by omega)
 have hle : bF a + n ≤ a.fTo / a.Step := by omega
 have hm : a.Step * (bF a + n) ≤ a.Step * (a.fTo / a.Step) := Int.mul_le_mul_of_nonneg_left hle (by omega);have b3 := Int.emod_add_mul_ediv a.fTo a.Step;have b4 := Int.emod_nonneg a.fTo (show a.Step ≠ 0 by omega);have hm2 : a.Step * bF a ≤ a.Step * (bF a + n) := Int.mul_le_mul_of_nonneg_left (by omega) (by omega);refine ⟨?_, by omega, by omega⟩;unfold bAt;have hf := h.f0;rw [wrap_i64 (n := 1440 * d) (by unfold I64; omega), wrap_i64 (n := bF a + n) (by unfold I64; omega), wrap_i64 (n := a.Step * (bF a + n)) (by unfold I64; omega), wrap_i64 (by unfold I64; omega)]
theorem qn9 {a : S2062} (h : LimOk a) {d b : Int} (hb : b ∈ begL a d) : a.Period.fFrom ≤ d ∧ d ≤ a.Period.fTo ∧ 1440 * d ≤ b ∧ b ≤ 1440 * d + 1439 := by
 have hp0 := h.p0; have hp1 := h.p1;unfold begL at hb
 cases hc : (((decide (d < a.Period.fFrom)) || (decide (a.Period.fTo < d))) || (!(qpr a d))) with
 | true => rw [hc] at hb; cases hb
 | false =>
  rw [hc] at hb;simp only [Bool.or_eq_false_iff, decide_eq_false_iff_not] at hc;obtain ⟨n, hn, rfl⟩ := List.mem_map.1 hb;rw [List.mem_range] at hn;have := q6u h (d := d) (by omega) (by omega) hn;have := h.f0; have := h.t1
  omega
def zbl (i : Nat) (l : S2062) (own : List Int) (b : Int) : Option S2068 := bif decide (cntI own b l.Length > l.Most) then some ⟨(i : Nat), b, cntI own b l.Length⟩ else none
def exL (ms : List S1079) : List S2062 → Nat → List S2068
 | [], _ => []
 | l :: t, i => (zbm l).filterMap (zbl i l (ofL l ms)) ++ exL ms t (i + 1)
def winE (x : S2068) : Value := .agg #[.int .i64 x.Limit, .int .i64 x.Begin, .int .i64 x.Count]
def winG (x : S2068) : G := G.agg (S2068.c x)
theorem q1n (x : S2068) (w : World) (M : Nat → Prop) : (winG x).p w M (winE x) := ⟨[_, _, _], rfl, ⟨rfl, rfl⟩, ⟨rfl, rfl⟩, ⟨rfl, rfl⟩, trivial⟩
theorem q3w {x : S2068} {w : World} {M : Nat → Prop} {ρ : Rho} {v : Value} (h : TRel w M ρ (.g (winG x)) v) : v = winE x := by
 obtain ⟨vs, rfl, h⟩ := h
 match vs, h with
 | [a, b, c], ⟨⟨h1, _⟩, ⟨h2, _⟩, ⟨h3, _⟩, _⟩ =>
  have h1 : a = .int .i64 x.Limit := h1;have h2 : b = .int .i64 x.Begin := h2;have h3 : c = .int .i64 x.Count := h3;rw [h1, h2, h3]; rfl
theorem zbn : qaj Tryz.prog 60 = some [(0, 1), (1, 1), (2, 1)] := by kernel_rfl
theorem zbo : vq Tryz.prog 132 = some [.slice none 0 0] := by kernel_rfl
theorem q1o : tyK Tryz.prog 132 = some (1, false) := by kernel_rfl
theorem kz63 : vq Tryz.prog 62 = some [.string ⟨#[]⟩, .string ⟨#[]⟩, .string ⟨#[]⟩, .int .i64 0, .int .i64 0, .int .i64 0, .int .i64 0, .int .i64 0, .int .i64 0, .int .i64 0, .int .i64 0] := by kernel_rfl
theorem zbp : tyK Tryz.prog 22 = some (1, false) := by kernel_rfl
theorem zbq : tyK Tryz.prog 48 = some (1, false) := by kernel_rfl
theorem kE61 : ze Tryz.prog 63 := ⟨_, Tryz.func63, by kernel_rfl, by kernel_rfl⟩
theorem kE62 : ze Tryz.prog 65 := ⟨_, Tryz.func65, by kernel_rfl, by kernel_rfl⟩
structure MsOk (ms : List S1079) : Prop where
 len : ms.length ≤ 1000
 sz : ∀ m ∈ ms, m.Kind.size ≤ 1000 ∧ m.Terminal.size ≤ 1000
 srt : (ms.map S1079.Moment).Pairwise (· ≤ ·)
theorem ql6 {ms : List S1079} (h : MsOk ms) (l : S2062) : (ofL l ms).Pairwise (· ≤ ·) := by
 have h := h.srt;unfold ofL;rw [List.pairwise_map] at h ⊢;exact h.filter _
theorem qoa {ms : List S1079} (h : MsOk ms) (l : S2062) : (ofL l ms).length ≤ 1000 := by
 have := List.length_filter_le (fun m => qag l m.Kind m.Terminal) ms;have := h.len;unfold ofL;rw [List.length_map]; omega
section
variable {α : Type} {E : Env} {l : Nat} {enc : α → Value} {xs : List α} {C : ItC E.P l enc xs} {Q : Exit → ASt → List α × Bool → Prop} {s : ASt} {p : List α × Bool}
def okY (oi oj : Oper) : Option Cls → Option Cls → Bool
 | some a, some b => okC oi oj a b
 | some .p, none => true
 | _, _ => false
theorem IStep.mono {ops : Array Oper} {o : Oper} {K K' : ASt → List α × Bool → Prop} {c : Option Cls} (hk : ∀ s p, K s p → K' s p) (h : IStep E l enc xs ops o K s p c) : IStep E l enc xs ops o K' s p c := by
 cases c with
 | some c =>
  obtain ⟨s', h1, h2⟩ := h;exact ⟨s', h1, hk _ _ h2⟩
 | none =>
  obtain ⟨hd, gb, hw, hf, ht⟩ := h;refine ⟨hd, gb, hw, fun e => hk _ _ (hf e), fun e => ?_⟩;obtain ⟨q1, q2, f, arg, ts, x, post, q3, q4, q5, q6, q7⟩ := ht e;exact ⟨q1, q2, f, arg, ts, x, post, q3, q4, q5, q6, fun b => hk _ _ (q7 b)⟩
variable {ops : Array Oper} {md : Region.Mode} {cl : Nat → Option Cls}
def iOp (E : Env) (l : Nat) (enc : α → Value) (xs : List α) (ops : Array Oper) (cl : Nat → Option Cls) (i : Nat) (K : ASt → List α × Bool → Prop) (s : ASt) (p : List α × Bool) : Prop :=
 match ops[i]? with
 | none => K s p
 | some o => IStep E l enc xs ops o K s p (cl i)
def anyI (E : Env) (l : Nat) (enc : α → Value) (xs : List α) (md : Region.Mode) (ops : Array Oper) (cl : Nat → Option Cls) (K : ASt → List α × Bool → Prop) : Nat → Array Bool → ASt → List α × Bool → Prop
 | 0, listed, s, p => Region.ready md ops listed = [] ∧ K s p
 | fuel + 1, listed, s, p => (Region.ready md ops listed = [] → K s p) ∧ ∀ i ∈ Region.ready md ops listed, iOp E l enc xs ops cl i (anyI E l enc xs md ops cl K fuel (listed.setIfInBounds i true)) s p
theorem anyI.sound (hmk : E.mks = false) (hbw : E.bow = []) : ∀ (fuel : Nat) (listed : Array Bool) (s : ASt) (p : List α × Bool), anyI E l enc xs md ops cl (Q .normal) fuel listed s p → ∀ a w, IRel E C s p a w →
  wpAnyIn E.F 0 E.P md ops (fun e a' w' => ∃ s' p', IRel E C s' p' a' w' ∧ Q e s' p') fuel listed a w
 | 0, _, s, p, h, a, w, ha => ⟨h.1, s, p, ha, h.2⟩
 | fuel + 1, _, s, p, h, a, w, ha => by
  refine ⟨fun h0 => ⟨s, p, ha, h.1 h0⟩, fun i hi => ?_⟩;have h1 := h.2 i hi;unfold iOp at h1;unfold wpOpIn
  split
  ·rename_i ho; simp only [ho] at h1; exact anyI.sound hmk hbw fuel _ s p h1 a w ha
  ·rename_i o ho
   simp only [ho] at h1;exact IStep.sound h1 hmk hbw ha fun s' p' a' w' h3 ha' => anyI.sound hmk hbw fuel _ s' p' h3 a' w' ha'
theorem qtv {K : ASt → List α × Bool → Prop} {i : Nat} {oi : Oper} (hi : ops[i]? = some oi) : ∀ (fuel : Nat) (listed : Array Bool) (s : ASt) (p : List α × Bool),
  (∀ j oj, ops[j]? = some oj → j ≠ i → listed.getD j true = false → (∀ e ∈ oj.after, Region.binds md e = true → e.on ≠ i) → oi.apart ops oj = true ∧ okY oi oj (cl i) (cl j) = true) →
  i ∈ Region.ready md ops listed → IStep E l enc xs ops oi (anyI E l enc xs md ops cl K fuel (listed.setIfInBounds i true)) s p (cl i) → anyI E l enc xs md ops cl K (fuel + 1) listed s p := by
 intro fuel
 induction fuel with
 | zero =>
  intro listed s p hfree hr hy;refine ⟨fun h => (by rw [h] at hr; cases hr), fun j hj => ?_⟩
  by_cases hji : j = i
  ·subst hji; unfold iOp; simp only [hi]; exact hy
  ·exfalso
   have hj' := ready_mono hj hji
   -- at once another is ready: what follows would have to be empty
   cases hc : cl i with
   | none =>
    obtain ⟨hjun, oj, hoj, hall⟩ := mem_ready.1 hj
    have hnot : ∀ e ∈ oj.after, Region.binds md e = true → e.on ≠ i := fun e he hb heq => by
     have h1 := hall e he hb;have h0 := (mem_ready.1 hr).1;rw [heq] at h1
     rcases Nat.lt_or_ge i listed.size with h' | h'
     ·simp [h'] at h0 h1; rw [h0] at h1; cases h1
     ·simp [Array.getElem?_eq_none h'] at h1
    have := (hfree j oj hoj hji hjun hnot).2;rw [hc] at this
    cases hcj : cl j <;> rw [hcj] at this <;> simp [okY] at this
   | some ci =>
    rw [hc] at hy;obtain ⟨u, _, hu⟩ := hy;rw [hu.1] at hj'
    cases hj'
 | succ fuel ih =>
  intro listed s p hfree hr hy;refine ⟨fun h => (by rw [h] at hr; cases hr), fun j hj => ?_⟩
  by_cases hji : j = i
  ·subst hji; unfold iOp; simp only [hi]; exact hy
  ·obtain ⟨hjun, oj, hoj, hall⟩ := mem_ready.1 hj
   have hnot : ∀ e ∈ oj.after, Region.binds md e = true → e.on ≠ i := fun e he hb heq => by
    have h1 := hall e he hb;have h0 := (mem_ready.1 hr).1;rw [heq] at h1
    rcases Nat.lt_or_ge i listed.size with h' | h'
    ·simp [h'] at h0 h1; rw [h0] at h1; cases h1
    ·simp [Array.getElem?_eq_none h'] at h1
   obtain ⟨hap, hok⟩ := hfree j oj hoj hji hjun hnot
   have hfree' : ∀ k ok, ops[k]? = some ok → k ≠ i → (listed.setIfInBounds j true).getD k true = false → (∀ e ∈ ok.after, Region.binds md e = true → e.on ≠ i) → oi.apart ops ok = true ∧ okY oi ok (cl i) (cl k) = true := fun k ok hk hki hun hno => by
    refine hfree k ok hk hki ?_ hno
    by_cases hjk : j = k
    ·subst hjk; exact hjun
    ·rw [getD_set_ne true hjk] at hun; exact hun
   cases hc : cl i with
   | none =>
    rw [hc] at hok
    cases hcj : cl j <;> rw [hcj] at hok <;> simp [okY] at hok
   | some ci =>
    rw [hc] at hy hok;obtain ⟨u, hy1, hy2⟩ := hy;have h1 := hy2.2 j (ready_mono hj hji);unfold iOp at h1 ⊢;simp only [hoj] at h1 ⊢;rw [Array.setIfInBounds_comm _ _ (Ne.symm hji)] at h1
    cases hcj : cl j with
    | some cj =>
     rw [hcj] at h1 hok;obtain ⟨t, h2, h3⟩ := h1;obtain ⟨s2, h4, h5⟩ := AStep.swap hap hok hy1 h2;refine ⟨s2, h4, ih (listed.setIfInBounds j true) s2 p hfree' (ready_mono hr (Ne.symm hji)) ?_⟩;rw [hc];exact ⟨t, h5, h3⟩
    | none =>
     rw [hcj] at h1 hok
     have hcp : ci = .p := by cases ci <;> simp [okY] at hok <;> rfl
     subst hcp;obtain ⟨a1, a2, a3⟩ := Oper.apart_spec hap;obtain ⟨i0, gi, ri, mi, i1, i2, i3, i4, rfl⟩ := hy1.parts ⟨by simp, by simp⟩;obtain rfl : mi = s.mem := i4 (.inl rfl);obtain ⟨j0, gj, hw, hf, ht⟩ := h1;have hev : ∀ x ∈ oj.op.operands, (⟨s.n, updO oi.dst ri s.tmps, s.mem⟩ : ASt).eval E x = s.eval E x := js a1;have key : ∀ v p', anyI E l enc xs md ops cl K fuel ((listed.setIfInBounds j true).setIfInBounds i true) ((⟨s.n, updO oi.dst ri s.tmps, s.mem⟩ : ASt).put oj.dst v) p' →
       anyI E l enc xs md ops cl K (fuel + 1) (listed.setIfInBounds j true) (s.put oj.dst v) p' := fun v p' hk => by
      refine ih (listed.setIfInBounds j true) (s.put oj.dst v) p' hfree' (ready_mono hr (Ne.symm hji)) ?_;rw [hc];refine ⟨⟨s.n, updO oi.dst ri (updO oj.dst v s.tmps), s.mem⟩, ?_, ?_⟩
      ·exact AStep.ofParts (s := ⟨s.n, updO oj.dst v s.tmps, s.mem⟩) i0 ((jm a3).2 i1) (fun e => ((i2 e).anyMem (.inl U)).congr (fun x hx => ((js a3) x hx).symm)) i3 (fun _ => U)
      ·rw [xq a2 ri v s.tmps];exact hk
     refine ⟨j0, gj, (jm a1).1 hw, fun e => key _ _ (hf e), fun e => ?_⟩;obtain ⟨q1, q2, f, arg, ts, x, post, q3, q4, q5, q6, q7⟩ := ht e;have e1 : (⟨s.n, updO oi.dst ri s.tmps, s.mem⟩ : ASt).eval E f = s.eval E f := hev f (by rw [q3]; simp [Op.operands, Call.operands]);have e2 : (⟨s.n, updO oi.dst ri s.tmps, s.mem⟩ : ASt).eval E arg = s.eval E arg := hev arg (by rw [q3]; simp [Op.operands, Call.operands]);rw [e1] at q4;rw [e2] at q5;exact ⟨q1, q2, f, arg, ts, x, post, q3, q4, q5, q6, fun b => key _ _ (q7 b)⟩
def q3x (md : Region.Mode) (ops : Array Oper) (cl : Nat → Option Cls) (listed : Array Bool) (i : Nat) : Bool :=
 match ops[i]? with
 | none => false
 | some oi => (List.range ops.size).all fun j => j == i || listed.getD j true || match ops[j]? with
   | some oj => oj.after.any (fun e => Region.binds md e && e.on == i) || (oi.apart ops oj && okY oi oj (cl i) (cl j))
   | none => true
theorem qtw {i : Nat} {oi : Oper} {listed : Array Bool} (hi : ops[i]? = some oi) (h : q3x md ops cl listed i = true) (j : Nat) (oj : Oper)
  (hj : ops[j]? = some oj) (hne : j ≠ i) (hun : listed.getD j true = false) (hno : ∀ e ∈ oj.after, Region.binds md e = true → e.on ≠ i) :
  oi.apart ops oj = true ∧ okY oi oj (cl i) (cl j) = true := by
 simp only [q3x, hi, List.all_eq_true, List.mem_range] at h;have h1 := h j (Array.getElem?_eq_some_iff.1 hj).1;simp only [hj, Bool.or_eq_true, beq_iff_eq, hne, false_or, hun, Bool.false_eq_true, Bool.and_eq_true] at h1
 rcases h1 with h1 | h1
 ·obtain ⟨e, he, hb⟩ := Array.any_eq_true'.1 h1;simp only [Bool.and_eq_true, beq_iff_eq] at hb;exact absurd hb.2 (hno e he hb.1)
 ·exact h1
def lexY (md : Region.Mode) (ops : Array Oper) (cl : Nat → Option Cls) : Nat → Nat → Array Bool → Bool
 | 0, _, listed => (Region.ready md ops listed).isEmpty
 | fuel + 1, k, listed => (Region.ready md ops listed).contains k && (q3x md ops cl listed k || (Region.ready md ops listed).all fun j => j == k) && lexY md ops cl fuel (k + 1) (listed.setIfInBounds k true)
theorem qsh {K : ASt → List α × Bool → Prop} : ∀ (lo : List Oper) (cs : List (Option Cls)) (k : Nat) (listed : Array Bool) (s : ASt) (p : List α × Bool), (∀ j, lo[j]? = ops[k + j]?) → (∀ j c, cs[j]? = some c → cl (k + j) = c) →
  lexY md ops cl lo.length k listed = true → IOps E l enc xs ops K lo cs s p → anyI E l enc xs md ops cl K lo.length listed s p
 | [], [], _, _, _, _, _, _, hB, h => ⟨by simpa [lexY] using hB, h⟩
 | o :: lo, c :: cs, k, listed, s, p, hl, hc, hB, h => by
  have h0 : ops[k]? = some o := by simpa using (hl 0).symm
  have hc0 : cl k = c := by simpa using hc 0 c (by simp)
  simp only [List.length_cons, lexY, Bool.and_eq_true] at hB;obtain ⟨⟨hr, hf⟩, hB'⟩ := hB;subst hc0
  have hr : k ∈ Region.ready md ops listed := by simpa using hr
  have hx := IStep.mono (fun s' p' h2 => qsh lo cs (k + 1) _ s' p' (fun j => by have := hl (j + 1); simpa [Nat.add_assoc, Nat.add_comm 1 j] using this)
    (fun j c hj => by have := hc (j + 1) c (by simpa using hj); simpa [Nat.add_assoc, Nat.add_comm 1 j] using this) hB' h2) h
  rw [Bool.or_eq_true] at hf
  rcases hf with hf | hf
  ·exact qtv h0 lo.length listed s p (qtw h0 hf) hr hx
  ·refine ⟨fun h => (by rw [h] at hr; cases hr), fun j hj => ?_⟩;have := List.all_eq_true.1 hf j hj
   obtain rfl : j = k := by simpa using this
   unfold iOp;simp only [h0];exact hx
 | [], _ :: _, _, _, _, _, _, _, _, h => h.elim
 | _ :: _, [], _, _, _, _, _, _, _, h => h.elim
theorem IRel.draw {a : Act} {w : World} (h : IRel E C s p a w) : IRel E C s p a { w with drawn := w.drawn + 1 } := by
 obtain ⟨N, W1, k1, k2, k3, k4, k5, k6⟩ := h;exact ⟨N, W1, k1, k2, k3, k4, k5.draw, k6⟩
def q1p (ops : Array Oper) (cs : List (Option Cls)) : Bool := lexY .any ops (fun i => cs.getD i none) ops.size 0 (Array.replicate ops.size false)
theorem qzm {id : Nat} (cs : List (Option Cls)) (hB : q1p ops cs = true) (h : IOps E l enc xs ops (Q .normal) ops.toList cs s p) (hmk : E.mks = false := by rfl) (hbw : E.bow = [] := by rfl) : IWp E C (.region id ops true) Q s p := by
 intro a w ha;refine wpIn_region_any E.orders ?_;have h1 := qsh (md := .any) (cl := fun i => cs.getD i none) ops.toList cs 0 (Array.replicate ops.size false) s p (by simp) (fun j c hj => by simp [hj]) (by simpa [q1p] using hB) h;have h2 := anyI.sound (C := C) (Q := Q) hmk hbw _ _ s p h1 a _ ha.draw
 simpa using h2
end
def qkv (i : Nat) (l : S2062) (own : List Int) (m : S1079) (b : Int) : Option S2068 := bif decide (b ≤ m.Moment) && decide (m.Moment < b + l.Length) then some ⟨(i : Nat), b, cntI own b l.Length⟩ else none
def dsL (m : S1079) : List Int := [m.Moment / 1440 - 1, m.Moment / 1440]
def arW (ms : List S1079) (m : S1079) (i : Nat) (l : S2062) (n : Nat) : List S2068 := ((dsL m).take n).flatMap fun d => (begL l d).filterMap (qkv i l (ofL l ms) m)
def arL (ms : List S1079) (m : S1079) : List S2062 → Nat → List S2068
 | [], _ => []
 | l :: t, i => (bif qag l m.Kind m.Terminal then arW ms m i l 2 else []) ++ arL ms m t (i + 1)
theorem q6v : Tryz.prog.underlying 174 = some (.array 2 3) := by kernel_rfl
theorem zbr : vq Tryz.prog 174 = some [.int .i64 0, .int .i64 0] := by kernel_rfl
theorem qsi (ms : List S1079) (m : S1079) (i : Nat) (l : S2062) {n : Nat} {d : Int} (h : (dsL m)[n]? = some d) : arW ms m i l (n + 1) = arW ms m i l n ++ (begL l d).filterMap (qkv i l (ofL l ms) m) := by
 unfold arW;rw [List.take_add_one, h, List.flatMap_append]; simp
theorem q3y (ms : List S1079) (m : S1079) (i : Nat) (l : S2062) {n : Nat} (h : n ≤ 2) : ∃ post, arW ms m i l 2 = arW ms m i l n ++ post := by
 unfold arW;refine ⟨((dsL m).drop n).flatMap fun d => (begL l d).filterMap (qkv i l (ofL l ms) m), ?_⟩;rw [← List.flatMap_append, List.take_append_drop]; rfl
theorem ql7 {g : GL} (a0 : List S2062) (a1 : List S1079) (m : S1079) (hl0 : a0.length ≤ 1000) (hl : ∀ x ∈ a0, LimOk x) (hm : MsOk a1) (hm0 : 0 ≤ m.Moment) (hm1 : m.Moment ≤ 143999999) :
  SeqN (EG g) 101 [G.ref [G.sl 11 (List.map S2062.c a0)], G.ref (S1079.c m), G.ref [G.sl 7 (List.map S1079.c a1)]] winE (arL a1 m a0 0) := by
 refine qhq Tryz.func101 U U U fun l C => ?_;refine vm<|jr [.p]<|st U U (zi U U) U<|qd<|vm<|jr [.p, .p, .p]<|st U U (qf U zbp U) U<|st U U (zb (f := S2062.c) (l := a0) U Tryz.underlying22 U) U<|st U U (qj U U) U<|qd<|qbf ?_;refine qgr (γ := Nat × List S2062 × List S2068) (fun g => [(1, .g (G.ref [G.sl 11 (List.map S2062.c a0)])), (2, .g (G.ref (S1079.c m))), (3, .g (G.ref [G.sl 7 (List.map S1079.c a1)])), (4, .g (G.ref [G.lit (.func (.yield l) #[] #[])])), (11, .g (G.sl 11 (List.map S2062.c a0))), (12, .g (G.int (List.length a0 : Int))), (13, .g (G.int ((g.1 : Nat) : Int)))])
  (fun g => (g.2.2, false)) (fun g => a0.drop g.1 = g.2.1 ∧ g.2.2 ++ arL a1 m g.2.1 g.1 = arL a1 m a0 0) (fun g => List.length g.2.1) ⟨rfl, (0, a0, []), ⟨rfl, rfl, rfl, rfl, rfl, rfl, rfl, trivial⟩, rfl, rfl, ⟨rfl, rfl⟩, trivial⟩ ?_
 rintro ⟨k, tl, pre0⟩ ⟨hd, hR⟩;replace hd : a0.drop k = tl := hd;replace hR : pre0 ++ arL a1 m tl k = arL a1 m a0 0 := hR;refine vm<|jr [.p]<|st U U (zd U U U) U<|qd<|vm ?_;refine qdh _ U (fun h1 => ?_) (fun h1 => ?_)
 ·replace h1 : (decide (((k : Nat) : Int) < (List.length a0 : Int))) = true := h1;obtain ⟨y, tl, rfl, hx1, hd⟩ := zq hd (decT h1);replace h1 := decT h1;have hy : LimOk y := hl y (List.mem_of_getElem? hx1);rw [arL] at hR;have hlen := hm.len
  have hln : (List.length a0 : Int) ≤ 1000 := by have := hl0; omega
  refine qdi<|vm<|qbf<|vm<|jr [.p, .p, .p, .w, .w, .w, .w]<|st U U (qj U U) U<|st U U (z5 (f := S2062.c) (l := a0) (a := y) U Tryz.underlying22 vy U U (Int.natCast_nonneg _) hx1) U<|st U U (qr U vy U U U) U<|st_w U U (zm 5 U z3 U U) U<|st_w U U (zm 6 U kz63 U U) U<|je U U (qw (tv := .g (G.int ((k : Nat) : Int))) U ty3 U U U U U)<|je U U (qw (tv := .g (G.agg (limG y))) U vy U U U U U)<|qd<|qgs (l1 := [(1, .g (G.ref [G.sl 11 (List.map S2062.c a0)])), (2, .g (G.ref (S1079.c m))), (3, .g (G.ref [G.sl 7 (List.map S1079.c a1)])), (4, .g (G.ref [G.lit (.func (.yield l) #[] #[])])), (5, .g (G.ref [G.int ((k : Nat) : Int)])), (6, .ptr 6 0), (11, .g (G.sl 11 (List.map S2062.c a0))), (12, .g (G.int (List.length a0 : Int))), (13, .g (G.int ((k : Nat) : Int)))]) (m := [(6, .box [.g (G.str y.Name), .g (G.str y.Kind), .g (G.str y.Terminal), .g (G.int y.Length), .g (G.int y.Step), .g (G.int y.fFrom), .g (G.int y.fTo), .g (G.int y.Period.fFrom), .g (G.int y.Period.fTo), .g (G.int y.Period.Days), .g (G.int y.Most)])]) 5 U ⟨.inl ⟨U, U⟩, .inl ⟨U, U⟩, .inl ⟨U, U⟩, .inl ⟨U, U⟩, .inr (qft U), .inl ⟨U, U⟩, .inl ⟨U, U⟩, .inl ⟨U, U⟩, .inl ⟨U, U⟩, O⟩ ⟨U, O⟩ U U<|qgs (l1 := [(1, .g (G.ref [G.sl 11 (List.map S2062.c a0)])), (2, .g (G.ref (S1079.c m))), (3, .g (G.ref [G.sl 7 (List.map S1079.c a1)])), (4, .g (G.ref [G.lit (.func (.yield l) #[] #[])])), (5, .g (G.ref [G.int ((k : Nat) : Int)])), (6, .g (G.ref (limG y))), (11, .g (G.sl 11 (List.map S2062.c a0))), (12, .g (G.int (List.length a0 : Int))), (13, .g (G.int ((k : Nat) : Int)))]) (m := []) 6 U ⟨.inl ⟨U, U⟩, .inl ⟨U, U⟩, .inl ⟨U, U⟩, .inl ⟨U, U⟩, .inl ⟨U, U⟩, .inr (qft U), .inl ⟨U, U⟩, .inl ⟨U, U⟩, .inl ⟨U, U⟩, O⟩ O U U<|vm<|vm<|jr [.p, .p, .p, .p, .p, .p, .p]<|st U U (qr U vy U U U) U<|st U U (qc U qcz U) U<|st U U (qf U ty9 U) U<|st U U (qc U qjj U) U<|st U U (qf U ty9 U) U<|st U U (qg U q2y U (q3u y m.Kind m.Terminal hy.k) (qe U (qe U (qe U qk)))) U<|st U U (jo U U) U<|qd ?_;refine qdh _ U (fun h2 => ?_) (fun h2 => ?_)
  ·have h2 : qag y m.Kind m.Terminal = false := by simpa using h2
   rw [h2] at hR;refine qkw<|jr [.p, .p]<|st U U (zn U U U (by (try dsimp only); unfold I64; omega)) U<|st U U (qj U U) U<|qd ?_;refine ⟨U, (k + 1, tl, pre0), ⟨U, U, U, U, U, U, U, O⟩, U, U, ⟨hd, ?_⟩, ?_⟩
   ·simpa using hR
   ·simp
  ·have h2 : qag y m.Kind m.Terminal = true := by simpa using h2
   rw [h2] at hR;replace hR : pre0 ++ (arW a1 m k y 2 ++ arL a1 m tl (k + 1)) = arL a1 m a0 0 := hR;refine qdi<|vm<|jr [.p, .p, .p, .w, .w]<|st U U (qr U vy U U U) U<|st U U (qf U zbq U) U<|st U U (qg U kE61 U (q6s y a1 hy.k hm.sz hm.len) (qe U (qe U qk))) U<|st_w U U (zm 7 U zbo U U) U<|je U U (qw (tv := .g (G.sl 1 (List.map cInt (ofL y a1)))) U q1o U U U U U)<|qd<|qgs (l1 := [(1, .g (G.ref [G.sl 11 (List.map S2062.c a0)])), (2, .g (G.ref (S1079.c m))), (3, .g (G.ref [G.sl 7 (List.map S1079.c a1)])), (4, .g (G.ref [G.lit (.func (.yield l) #[] #[])])), (5, .g (G.ref [G.int ((k : Nat) : Int)])), (6, .g (G.ref (limG y))), (7, .g (G.ref [G.sl 1 (List.map cInt (ofL y a1))])), (11, .g (G.sl 11 (List.map S2062.c a0))), (12, .g (G.int (List.length a0 : Int))), (13, .g (G.int ((k : Nat) : Int)))]) (m := []) 7 U ⟨.inl ⟨U, U⟩, .inl ⟨U, U⟩, .inl ⟨U, U⟩, .inl ⟨U, U⟩, .inl ⟨U, U⟩, .inl ⟨U, U⟩, .inr (qft U), .inl ⟨U, U⟩, .inl ⟨U, U⟩, .inl ⟨U, U⟩, O⟩ O U U<|vm<|jr [.p, .p, .p, .p, .p, .p, .p, .p, .p]<|st U U (qc U wd U) U<|st U U (qf U ty3 U) U ?_;refine st U U (quz U U U hm0 (by decide) (by unfold I64; omega)) U ?_;refine st U U (kz U U U (by (try dsimp only); unfold I64; omega)) U<|st U U (qc U wd U) U<|st U U (qf U ty3 U) U ?_;refine st U U (quz U U U hm0 (by decide) (by unfold I64; omega)) U ?_;refine st U U (qci U zbr U q6v ty3 (zp U (zp U kx)) U) U<|st U U (qj U U) U<|qd<|qbf ?_;refine qgr (γ := Nat) (fun n => [(1, .g (G.ref [G.sl 11 (List.map S2062.c a0)])), (2, .g (G.ref (S1079.c m))), (3, .g (G.ref [G.sl 7 (List.map S1079.c a1)])), (4, .g (G.ref [G.lit (.func (.yield l) #[] #[])])), (5, .g (G.ref [G.int ((k : Nat) : Int)])), (6, .g (G.ref (limG y))), (7, .g (G.ref [G.sl 1 (List.map cInt (ofL y a1))])), (11, .g (G.sl 11 (List.map S2062.c a0))), (12, .g (G.int (List.length a0 : Int))), (13, .g (G.int ((k : Nat) : Int))), (35, .g (G.agg [G.int (m.Moment / 1440 - 1), G.int (m.Moment / 1440)])), (36, .g (G.int ((n : Nat) : Int)))])
    (fun n => (pre0 ++ arW a1 m k y n, false)) (fun n => n ≤ 2) (fun n => 2 - n) ⟨rfl, 0, ⟨rfl, rfl, rfl, rfl, rfl, rfl, rfl, rfl, rfl, rfl, rfl, rfl, trivial⟩, rfl, by simp [arW], Nat.zero_le _, trivial⟩ ?_
   intro n hn;refine vm<|jr [.p]<|st U U (zd U U U) U<|qd<|vm ?_;refine qdh _ U (fun h3 => ?_) (fun h3 => ?_)
   ·replace h3 : (decide (((n : Nat) : Int) < 2)) = true := h3;replace h3 := decT h3
    obtain ⟨d, hd1, hd2⟩ : ∃ d, (dsL m)[n]? = some d ∧ ([G.int (m.Moment / 1440 - 1), G.int (m.Moment / 1440)] : List G)[((n : Nat) : Int).toNat]? = some (G.int d) := by
     have : n = 0 ∨ n = 1 := by omega
     rcases this with rfl | rfl
     ·exact ⟨_, U, U⟩
     ·exact ⟨_, U, U⟩
    obtain ⟨post0, hpost⟩ := q3y a1 m k y (n := n + 1) (by omega);rw [qsi a1 m k y hd1] at hpost;refine qdi<|vm<|qbf<|vm<|jr [.p, .p]<|st U U (qv6 U q6v ty3 U U (Int.natCast_nonneg _) (by omega) hd2) U<|st U U (jb U U) U<|qd<|vm<|jr [.p, .p, .p]<|st U U (qr U vy U U U) U<|st U U (qj U U) U<|st U U (qg U kB60 U (q6w y d) (qe U (qe U qk))) U<|qd<|qbf ?_;refine qv7 (begL y d) [(1, .g (G.ref [G.sl 11 (List.map S2062.c a0)])), (2, .g (G.ref (S1079.c m))), (3, .g (G.ref [G.sl 7 (List.map S1079.c a1)])), (4, .g (G.ref [G.lit (.func (.yield l) #[] #[])])), (5, .g (G.ref [G.int ((k : Nat) : Int)])), (6, .g (G.ref (limG y))), (7, .g (G.ref [G.sl 1 (List.map cInt (ofL y a1))])), (11, .g (G.sl 11 (List.map S2062.c a0))), (12, .g (G.int (List.length a0 : Int))), (13, .g (G.int ((k : Nat) : Int))), (35, .g (G.agg [G.int (m.Moment / 1440 - 1), G.int (m.Moment / 1440)])), (36, .g (G.int ((n : Nat) : Int))), (41, .g (G.fn (.func 122) [] [G.ref [G.int d], G.ref (limG y)]))]
     (fun q => (pre0 ++ arW a1 m k y n) ++ q.filterMap (qkv k y (ofL y a1) m)) G.int (fun t z => updO (some 10) (.g (G.int z)) (upd 42 (.g (G.int z)) t)) rfl ⟨rfl, rfl, rfl, rfl, rfl, rfl, rfl, rfl, rfl, rfl, rfl, rfl, rfl, trivial⟩ rfl (by simp) zbs rfl rfl
     (ql8 y d (by have := hy.s0; omega)) (fun _ _ _ => rfl) ?_ ?_ ?_ ?_
    ·intro z pre lp C';refine jr [.p]<|st U U (jb U U) U<|qd ?_;exact ⟨U, U, U⟩
    ·intro q z post hq lp C';have hz := qn9 hy (d := d) (b := z) (by rw [hq]; simp);have hp0 := hy.p0;have hp1 := hy.p1;have hl0' := hy.l0;have hl1' := hy.l1;refine qbf<|vm<|qzm [some .p, some .p, some .p, some .p, some .p, some .p, some .p, some .p, some .p, some .p, some .p, some .p, some .p, some .p, some .p, some .p, some .p, some .p, some .p, some .p, some .p, some .p, some .p, none, some .p, some .p] (by kernel_rfl) ?_;refine ist (st U U (qj U U) U (qd ?_));refine ist (st U U (qc U wd U) U (qd ?_));refine ist (st U U (qf U ty3 U) U (qd ?_));refine ist (st U U (vj U U U) U (qd ?_));refine ist (st U U (qj U U) U (qd ?_));refine ist (st_g U U U (jf _ _) (fun h => qc U wd U) U (qd ?_));refine ist (st_g U U U (jf _ _) (fun h => qf U ty3 (gd h U)) U (qd ?_));refine ist (st_g U U U (jf _ _) (fun h => qj U U) U (qd ?_));refine ist (st_g U U U (jf _ _) (fun h => qc U qf5 U) U (qd ?_));refine ist (st_g U U U (jf _ _) (fun h => qf U ty3 (gd h U)) U (qd ?_));refine ist (st_g U U U (jf _ _) (fun h => zn U (gd h U) (gd h U) (by (try dsimp only); unfold I64; omega)) U (qd ?_));refine ist (st_g U U U (jf _ _) (fun h => zd U (gd h U) (gd h U)) U (qd ?_));refine ist (st U U (zt U U U U) U (qd ?_));refine ist (st U U (qj U U) U (qd ?_));have hex : qkv k y (ofL y a1) m z = bif decide (z ≤ m.Moment) && decide (m.Moment < z + y.Length) then some ⟨(k : Nat), z, cntI (ofL y a1) z y.Length⟩ else none := rfl
     revert hex
     generalize (decide (z ≤ m.Moment) && decide (m.Moment < z + y.Length)) = c;intro hex;refine ist (st_g U U U (jf _ _) (fun h => qf U q6x U) U (qd ?_));refine ist (st_g U U U (jf _ _) (fun h => qf U ty3 U) U (qd ?_));refine ist (st_g U U U (jf _ _) (fun h => qj U U) U (qd ?_));refine ist (st_g U U U (jf _ _) (fun h => qf U q1o U) U (qd ?_));refine ist (st_g U U U (jf _ _) (fun h => qj U U) U (qd ?_));refine ist (st_g U U U (jf _ _) (fun h => qc U qf5 U) U (qd ?_));refine ist (st_g U U U (jf _ _) (fun h => qf U ty3 (gd h U)) U (qd ?_));refine ist (st_g U U U (jf _ _) (fun h => qg U kE62 U (q6y (ofL y a1) z y.Length (qoa hm y) (qsg (ql6 hm y) (qoa hm y) (by omega) (by omega) (by omega) hl1')) (qe (gd h U) (qe (gd h U) (qe (gd h U) qk)))) U (qd ?_));refine ist (st_g U U U (jf _ _) (fun h => jk U qj5 U zbn (zp (gd h U) (zp (gd h U) (zp (gd h U) kx))) U) U (qd ?_))
     cases c with
     | false =>
      refine iy_g false U U U (jf _ _) U U (fun _ => ?_) (fun h => by cases h);refine ist (st_g (gb := false) (r := .g (G.bool false)) U U U (jf _ _) (fun h => by cases h) U (qd ?_));refine ist (st U U (qgc U U U) U (qd ?_));refine qob ?_;refine qdh false U (fun h4 => by cases h4) (fun h4 => ?_);refine qdi ?_;show (_, _) = (_, _);rw [List.filterMap_append]
      simp [hex]
     | true =>
      refine iy_g true U U U (jf _ _) U U (fun h => by cases h) (fun _ => ⟨U, U, ⟨(k : Nat), z, cntI (ofL y a1) z y.Length⟩, post.filterMap (qkv k y (ofL y a1) m) ++ (post0 ++ arL a1 m tl (k + 1)), (fun w M ρ v h => q3w h), ?_, fun b => ?_⟩)
      ·rw [← hR, hpost, hq, List.filterMap_append, List.filterMap_cons, hex]; simp
      refine ist (st_g (gb := true) U U U (jf _ _) (fun h => jo U U) U (qd ?_));refine ist (st U U (qgc U U U) U (qd ?_));refine qob ?_;refine qdh (!b) U (fun h4 => ?_) (fun h4 => ?_)
      ·refine qsj ?_;exact h4
      ·have hb : b = true := by simpa using h4
       subst hb;refine qdi ?_;show (_, _) = (_, _);rw [List.filterMap_append]
       simp [hex]
    ·refine jr [.p, .p]<|st U U (zn U U U (by (try dsimp only); unfold I64; omega)) U<|st U U (qj U U) U<|qd ?_;refine ⟨U, n + 1, ⟨U, U, U, U, U, U, U, U, U, U, U, U, O⟩, U, ?_, ?_, ?_⟩
     ·show _ = (pre0 ++ arW a1 m k y (n + 1), false);rw [qsi a1 m k y hd1, List.append_assoc]
     ·show n + 1 ≤ 2; omega
     ·show 2 - (n + 1) < 2 - n; omega
    ·intro pre;exact .inl U
   ·replace h3 : (decide (((n : Nat) : Int) < 2)) = false := h3;replace h3 := decF h3
    obtain rfl : n = 2 := by omega
    refine qkw<|jr [.p, .p]<|st U U (zn U U U (by (try dsimp only); unfold I64; omega)) U<|st U U (qj U U) U<|qd ?_;refine ⟨U, (k + 1, tl, pre0 ++ arW a1 m k y 2), ⟨U, U, U, U, U, U, U, O⟩, U, U, ⟨hd, ?_⟩, ?_⟩
    ·rw [← hR]; simp
    ·simp
 ·replace h1 : (decide (((k : Nat) : Int) < (List.length a0 : Int))) = false := h1;obtain rfl := zz hd (decF h1);refine qkw<|.inr ?_;rw [← hR]; simp [arL]
section
variable {E : Env} {w0 : World} {M0 : Nat → Prop}
def ConT (E : Env) (f : FuncId) (args : List TV) (e : TypeId) (k : Nat) (xs xs' : List (List G)) (n : Nat) : Prop :=
 ∀ w M ρ (vs : List Value), (∀ b, M b → b < w.heap.size) → GlOk E w (qz M ρ) → (∀ id x, ρ id = some x → ∃ blk, qq [(0, Blk.arr e k xs)] id = some blk) →
  (∀ id ow, ρ id = some (some ow) → ow.b < w.heap.size ∧ ¬ M ow.b) → (∀ id id' ow ow', ρ id = some (some ow) → ρ id' = some (some ow') → ow.b = ow'.b → id = id') →
  (∀ id blk, qq [(0, Blk.arr e k xs)] id = some blk → BRel w (qz M ρ) ρ id blk) → ArgsT w (qz M ρ) ρ args vs →
  Calls E.P f vs.toArray w fun ex w' => ∃ v, ex = .returned v ∧ BelowX (fun b => ∃ id ow, ρ id = some (some ow) ∧ ow.b = b) w w' ∧ BRel w' (qz M ρ) ρ 0 (.arr e k xs') ∧ TRel w' (qz M ρ) ρ (.osl 0 k 0 n) v
theorem ConT.lend {f : FuncId} {args : List TV} {e : TypeId} {k n : Nat} {xs xs' : List (List G)} {mem : Mem} {x : Nat → Option Own} (h : ConT E f args e k xs xs' n) : ConT (E.lend mem x) f args e k xs xs' n := h
def zbt (fn : Func) (e : TypeId) (k : Nat) (xs' : List (List G)) (n : Nat) : Exit → ASt → Prop
 | .ret, s | .normal, s => (∃ t, fn.results = #[.tmp t] ∧ s.get t = .osl 0 k 0 n) ∧ MemL s [(0, .arr e k xs')]
 | _, _ => False
theorem qtx {f : FuncId} {fn : Func} {c : Code} {args : List TV} {e : TypeId} {k n : Nat} {xs xs' : List (List G)} (hf : E.P.funcs[f]? = some fn) (hb : fn.body = some c) (hn0 : Nat.ble args.length fn.ntmps = true)
  (h : ∀ w0 M0 x, AWp (E.lend [(0, .arr e k xs)] x) w0 M0 c (zbt fn e k xs' n) ⟨fn.ntmps, qgm args, [(0, .arr e k xs)]⟩) (hrn : E.rnd = none := by rfl) (hdf : E.mks = false := by rfl) (hnb : E.nb = 0 := by rfl) : ConT E f args e k xs xs' n := by
 intro w M ρ vs hM hgl hdom hown hinj hblk hv;have hn := Nat.le_of_ble_eq_true hn0;have hlen := hv.length
 let x : Nat → Option Own := fun id => (ρ id).getD none
 have hx : ∀ id y, ρ id = some y → x id = y := fun id y h => by simp only [x, h, Option.getD_some]
 have hlive : ∀ p ∈ [((0 : Nat), Blk.arr e k xs)], p.2.live = true := by
  intro p hp; rw [List.mem_singleton.1 hp]; rfl
 have hkeep : ∀ id y, qq (E.lend [(0, .arr e k xs)] x).bow id = some y → ρ id = some y := by
  intro id y h;obtain ⟨⟨b, h1⟩, rfl⟩ := (vv x).1 h;obtain ⟨z, hz⟩ := (hblk id b h1).has (hlive _ (ji _ h1));rw [hx id z hz]; exact hz
 have hkeepM : ∀ id y, (id, y) ∈ (E.lend [(0, .arr e k xs)] x).bow → ρ id = some y := fun id y h => hkeep id y (qnx h);have hback : ∀ id y, ρ id = some y → qq (E.lend [(0, .arr e k xs)] x).bow id = some y := fun id y h => (vv x).2 ⟨hdom id y h, (hx id y h).symm⟩;refine calls_of_wp hf hb ?_
 have ha : ARel (E.lend [(0, .arr e k xs)] x) w M ⟨fn.ntmps, qgm args, [(0, .arr e k xs)]⟩ { tmps := vs.toArray ++ Array.replicate (fn.ntmps - vs.toArray.size) undef, defers := [] } w := by
  refine ⟨fun _ => U, ?_, ρ, ?_, Marks.nil, ?_⟩
  ·simp; omega
  ·exact ⟨BelowX.refl _ w, hM, hgl, hdom, fun id ow ho => ⟨.inr ⟨id, ow, ji _ (hback id _ ho), U⟩, (hown id ow ho).1⟩, hinj, hkeep, ⟨fun b ⟨id, ow, h1, h2⟩ => h2 ▸ (hown id ow (hkeep id _ h1)).2, Nat.le_trans (Nat.le_of_eq hnb) (Nat.zero_le _)⟩, hblk⟩
  ·intro i;have := qhh (fn.ntmps - vs.length) hv i;show TRel _ _ _ (qgm args i) _;rw [Array.getD_eq_getD_getElem?];rw [show (vs.toArray ++ Array.replicate (fn.ntmps - vs.toArray.size) undef) = (vs ++ List.replicate (fn.ntmps - vs.length) undef).toArray by simp];rw [List.getElem?_toArray];exact this
 refine wp_mono (qlw (E := E.lend [(0, .arr e k xs)] x) (h w M x _ w ha) hrn) ?_;rintro ex a' w' ⟨s', ha', hq⟩
 have fin : ((∃ t, fn.results = #[.tmp t] ∧ s'.get t = .osl 0 k 0 n) ∧ MemL s' [(0, .arr e k xs')]) → a'.defers = [] ∧ ∃ v, (results fn a'.tmps).run E.P w' = .ok v w' ∧ (∃ u, Ending.returned v = .returned u ∧ BelowX (fun b => ∃ id ow, ρ id = some (some ow) ∧ ow.b = b) w w' ∧ BRel w' (qz M ρ) ρ 0 (.arr e k xs') ∧ TRel w' (qz M ρ) ρ (.osl 0 k 0 n) u) := by
  rintro ⟨⟨t, hr, hq⟩, hm'⟩;obtain ⟨ρf, hm, _, ht⟩ := ha'.ex
  have hres : (results fn a'.tmps).run E.P w' = .ok (a'.tmps.getD t undef) w' := by
   rw [qdj, hr]
   simp [qiq]
  have hsub : ∀ b, qz M ρ b → qz M ρf b := by
   rintro b (h | ⟨id, o, h, rfl⟩)
   ·exact .inl h
   ·exact .inr ⟨id, o, hm.keep id _ (hback id _ h), U⟩
  obtain ⟨z, hz⟩ := (hblk 0 (.arr e k xs) rfl).has rfl
  have hρ0 : ρ 0 = ρf 0 := by rw [hz, hm.keep 0 z (hback 0 z hz)]
  refine ⟨ha'.defers hdf, _, hres, _, U, hm.below.mono (fun b ⟨id, ow, h3, h4⟩ => ⟨id, ow, hkeepM id _ h3, h4⟩), BRel.ground U hρ0 ((hm.blk 0 _ (qny hm' List.mem_cons_self)).sub hsub), ?_⟩;have h1 := ht t;rw [hq] at h1
  rcases h1 with ⟨g1, g2⟩ | ⟨ow, g1, g2⟩
  ·exact .inl ⟨hρ0.trans g1, g2⟩
  ·exact .inr ⟨ow, hρ0.trans g1, g2⟩
 cases ex with
 | ret => exact fin hq
 | normal => exact fin hq
 | _ => exact hq.elim
theorem qzn {o : Oper} {mem : Mem} {ev : Operand → TV} {f : FuncId} {aps : Array Operand} {ts : Array TypeId} {args : List TV} {e : TypeId} {k n : Nat} {xs xs' : List (List G)} (c : Nat) (ho : o.op = .call ⟨.value (.func f), aps, ts⟩)
  (hk : ze E.P f) (hev : ev (.func f) = .g (.lit (.func (.func f) #[] #[]))) (hc : ConT E f args e k xs xs' n) (ha : aps.toList.map (fun x => some (ev x)) = args.map (renT [(0, c)])) (hl : qq mem c = some (.arr e k xs))
  (hrefs : ∀ i blk, qq mem i = some blk → i ≠ c → blk.noref (some c) = true) (hn : n ≤ xs'.length) (hbw : qq E.bow c = none := by rfl) (hst : wn E = true := by rfl) :
  EffW E o mem ev (.g (.sl k (xs'.take n))) ((c, .gone) :: mem) (some c) := by
 intro w0 M0 ρ w e' hm hx;obtain ⟨fn, h1, h2, h3⟩ := hk
 have hef : e' (.func f) = .func (.func f) #[] #[] := by
  have := hx (.func f) (by rw [ho]; simp [Op.operands, Call.operands]);rw [hev] at this;exact this
 have hres : (execOp e' o).run E.P w = .ok (.enter f (aps.toList.map e').toArray) w := by
  simp [execOp, ho, resolve, hef, Deferred.ofValue, invoke, kr h1 h2 h3, ← Array.toList_map]
 rw [hres]
 let ρc : Rho := fun p => if p = 0 then ρ c else none
 have hρ0 : ρc 0 = ρ c := by simp [ρc]
 have hρc' : ∀ p x, ρc p = some x → p = 0 ∧ ρ c = some x := by
  intro p x h;simp only [ρc] at h
  split at h
  ·exact ⟨by assumption, h⟩
  ·cases h
 let M : Nat → Prop := fun b => qz M0 ρ b ∧ ¬ ∃ ow, ρ c = some (some ow) ∧ ow.b = b
 have hown : qz M ρc = qz M0 ρ := by
  funext b
  apply propext
  constructor
  ·rintro (h | ⟨p, o, h, rfl⟩)
   ·exact h.1
   ·exact .inr ⟨c, o, (hρc' p _ h).2, U⟩
  ·intro h
   by_cases hb : ∃ ow, ρ c = some (some ow) ∧ ow.b = b
   ·obtain ⟨ow, h1, h2⟩ := hb; exact .inr ⟨0, ow, hρ0.trans h1, h2⟩
   ·exact .inl ⟨h, hb⟩
 have hcall := hc w M ρc (aps.toList.map e') (fun b h => hm.lt b h.1) (by rw [hown]; exact hm.glob)
  (fun p x h => by
   have := (hρc' p x h).1;subst this
   exact ⟨_, U⟩)
  (fun p ow h => by
   have c2 := (hρc' p _ h).2
   exact ⟨(hm.fresh c ow c2).2, fun hM => hM.2 ⟨ow, c2, U⟩⟩)
  (fun p q ow ow' h1 h2 _ => (hρc' p _ h1).1.trans (hρc' q _ h2).1.symm)
  (fun p blk h => by
   have hp : p = 0 := by
    by_cases hp : p = 0
    ·exact hp
    ·have : qq [((0 : Nat), Blk.arr e k xs)] p = none := by
      simp only [qq];rw [show Nat.beq 0 p = false from by cases p with | zero => exact absurd rfl hp | succ _ => rfl]
      rfl
     rw [this] at h; cases h
   subst hp
   have hb : blk = .arr e k xs := by simpa [qq] using h.symm
   subst hb;rw [hown]
   exact BRel.ground U hρ0 (hm.blk c _ hl))
  (by
   rw [hown];refine qnz (σ := [(0, c)]) (ρc := ρc) (fun p q hpq => ?_) (fun x hx' => hx x (by rw [ho]; simp [Op.operands, Call.operands]; exact .inr (by simpa using hx'))) ha
   by_cases hp : p = 0
   ·subst hp
    have : c = q := by simpa [qq] using hpq
    rw [← this]; exact hρ0
   ·have : qq [((0 : Nat), c)] p = none := by
     simp only [qq];rw [show Nat.beq 0 p = false from by cases p with | zero => exact absurd rfl hp | succ _ => rfl]
     rfl
    rw [this] at hpq; cases hpq)
 rw [hown] at hcall;refine hcall.mono ?_;rintro ex w' ⟨v, rfl, hb, hblk, hr⟩
 have hlow : ∀ b, b < w.heap.size → ¬ qz M0 ρ b → w'.heap[b]? = w.heap[b]? := fun b hlt hno => hb.block b hlt (by
  rintro ⟨p, ow, h1, rfl⟩
  exact hno (.inr ⟨c, ow, (hρc' p _ h1).2, U⟩))
 let ρ' : Rho := fun id => if id = c then none else ρ id
 have hρn : ∀ id, id ≠ c → ρ' id = ρ id := fun id h => by simp only [ρ', if_neg h]
 have hρ' : ∀ id x, ρ' id = some x → ρ id = some x ∧ id ≠ c := by
  intro id x h;simp only [ρ'] at h
  split at h
  ·cases h
  ·exact ⟨h, by assumption⟩
 have hM : ∀ b, qz M0 ρ' b → qz M0 ρ b := by
  rintro b (hb | ⟨id, o, ho, rfl⟩)
  ·exact .inl hb
  ·exact .inr ⟨id, o, (hρ' id _ ho).1, U⟩
 have hno : ∀ ow, ρ c = some (some ow) → ¬ qz M0 ρ' ow.b := by
  rintro ow ho (hM0 | ⟨i, o, hi, he⟩)
  ·exact qbe hm ho hbw hst (.inl hM0)
  ·exact (hρ' i _ hi).2 (hm.inj i c o ow (hρ' i _ hi).1 ho he)
 have hkl : ∀ id, some id ≠ some c → ρ id ≠ none → ρ' id = ρ id := fun id h _ => hρn id fun e => h (by rw [e])
 have hne : ∀ id b, qq ((c, Blk.gone) :: mem) id = some b → (id = c ∧ b = .gone) ∨ (id ≠ c ∧ qq mem id = some b) := by
  intro id b h;simp only [qq] at h
  cases hbq : Nat.beq c id with
  | true =>
   rw [hbq] at h;exact .inl ⟨(Nat.eq_of_beq_eq_true hbq).symm, by simpa using h.symm⟩
  | false =>
   rw [hbq] at h;refine .inr ⟨fun e => ?_, h⟩;rw [e, Nat.beq_refl] at hbq; cases hbq
 refine ⟨v, U, ρ', ⟨?_, hm.m0, ?_, ?_, ?_, ?_, ?_, hm.lentM, ?_⟩, fun tv u hn' h => h.mono (some c) hn' hlow (fun b _ => hM b) hkl, ?_⟩
 ·refine ⟨hb.os.trans hm.below.os, hb.tape.trans hm.below.tape, hb.output.trans hm.below.output, Nat.le_trans hm.below.size hb.size, fun kk hkk hlk => ?_⟩;refine (hb.block kk (Nat.lt_of_lt_of_le hkk hm.below.size) ?_).trans (hm.below.block kk hkk hlk);rintro ⟨p, ow, h1, rfl⟩
  rcases (hm.fresh c ow (hρc' p _ h1).2).1 with h | h
  ·omega
  ·exact hlk h
 ·intro g vs hg;have := (hm.glob.grow hb.size hlow) g vs hg;exact ⟨⟨fun hb => this.1.1 (hM _ hb), this.1.2⟩, this.2.mono (fun _ _ _ => U) (fun b _ => hM b) this.1.1⟩
 ·intro id x h;obtain ⟨h1, h2⟩ := hρ' id x h;obtain ⟨b, hb⟩ := hm.dom id x h1;refine ⟨b, ?_⟩;simp only [qq]
  rw [show Nat.beq c id = false from by
   cases hbq : Nat.beq c id with
   | true => exact absurd (Nat.eq_of_beq_eq_true hbq).symm h2
   | false => rfl]
  exact hb
 ·exact fun id ow h => ⟨(hm.fresh id ow (hρ' id _ h).1).1, Nat.lt_of_lt_of_le (hm.fresh id ow (hρ' id _ h).1).2 hb.size⟩
 ·exact fun id id' ow ow' h1 h2 => hm.inj id id' ow ow' (hρ' id _ h1).1 (hρ' id' _ h2).1
 ·intro id x h;rw [hρn id (fun e => by rw [e, hbw] at h; cases h)];exact hm.keep id x h
 ·intro id blk h
  rcases hne id blk h with ⟨_, rfl⟩ | ⟨h1, h2⟩
  ·trivial
  ·refine (hm.blk id blk h2).mono (some c) (fun e => h1 (Option.some.inj e)) (hrefs id blk h2 h1) (fun ow ho => ?_) hlow (fun b _ => hM b) hkl;refine hb.block ow.b (hm.fresh id ow ho).2 ?_;rintro ⟨p, ow2, g1, g2⟩;exact h1 (hm.inj c id ow2 ow (hρc' p _ g1).2 ho g2).symm
 ·-- what came back
  have hlen : (xs'.take n).length = n := by rw [List.length_take]; omega
  rcases hr with ⟨g1, _, g2, g3⟩ | ⟨ow, g1, _, g2, p, g3, g4⟩
  ·subst g2;rw [g3];exact ⟨none, 0, by simp, by simp, Nat.zero_le _, by simp, .inl ⟨by simp, fun _ => rfl⟩⟩
  ·rcases hblk with ⟨k1, k2⟩ | ⟨ow', vs', k1, k2, k3, k4, k5, k6, k7⟩
   ·rw [g1] at k1; cases k1
   ·have : ow' = ow := by rw [g1] at k1; simpa using k1.symm
    subst this;have hg := (hρc' 0 _ g1).2;refine ⟨some ⟨ow'.b, p, none⟩, ow'.cap, by rw [g3, hlen]; rfl, by rw [hlen]; exact g2, k4, fun cc hcc => k6 cc (List.mem_of_mem_take hcc), ?_⟩
    by_cases hz : n = 0
    ·subst hz; exact .inl ⟨by simp, fun h => by cases h⟩
    ·have hp := g4 (by omega);simp only [Nat.zero_mul, Nat.add_zero] at hp;subst hp;have hfl : (xs'.take n).flatten = xs'.flatten.take (n * k) := (xl (k := k) n k6).symm
     have hfit : Fits w' (qz M0 ρ) (xs'.take n).flatten ((vs'.toList.drop ow'.o).take (n * k)) := by
      rw [hfl];have h5 := k7.take (n * k);rw [List.take_take, Nat.min_eq_left (Nat.mul_le_mul_right k hn)] at h5;exact h5
     refine .inr ⟨ow'.b, ow'.o, U, hno ow' hg, jx k2 (hfit.mono (fun _ _ _ => U) (fun b _ => hM b)) ?_⟩;intro j u hj;rw [List.getElem?_take] at hj
     split at hj
     ·rw [List.getElem?_drop] at hj; simpa using hj
     ·cases hj
theorem qv8 {α : Type} {f0 : α → List G} {l l' : List α} {o : Oper} {mem : Mem} {ev : Operand → TV} {f : FuncId} {aps : Array Operand} {ts : Array TypeId} {args : List TV} {e : TypeId} {k n : Nat} (c : Nat) (ho : o.op = .call ⟨.value (.func f), aps, ts⟩)
  (hk : ze E.P f) (hev : ev (.func f) = .g (.lit (.func (.func f) #[] #[]))) (hc : ConT E f args e k (l.map f0) (l'.map f0) n) (ha : aps.toList.map (fun x => some (ev x)) = args.map (renT [(0, c)])) (hl : qq mem c = some (.arr e k (l.map f0)))
  (hrefs : ∀ i blk, qq mem i = some blk → i ≠ c → blk.noref (some c) = true) (hn : n ≤ l'.length) (hbw : qq E.bow c = none := by rfl) (hst : wn E = true := by rfl) :
  EffW E o mem ev (.g (.sl k ((l'.take n).map f0))) ((c, .gone) :: mem) (some c) := by
 rw [List.map_take];exact qzn c ho hk hev hc ha hl hrefs (by rw [List.length_map]; exact hn) hbw hst
end
section
variable {E : Env} {w0 : World} {M0 : Nat → Prop}
theorem qty {α : Type} {f0 : α → List G} {l : List α} {o : Oper} {mem : Mem} {ev : Operand → TV} {t el e : TypeId} {x : Operand} {k id N a : Nat} {zs : List Value} (ho : o.op = .call ⟨.builtin .clear, #[x], #[t]⟩) (ht : E.P.underlying t = some (.slice el)) (hz : vq E.P el = some zs)
  (hx : ev x = .osl id k a N) (hN : l.length = N) (hb : qq mem id = some (.arr e k (l.map f0))) (hk : zs.length = k) (h1 : zs.all Value.oneCell' = true) : EffW E o mem ev (.g (.tup [])) ((id, .arr e k ((l.take a).map f0)) :: mem) none := by
 intro w0 M0 ρ w e' hm he;have hv := he x (by rw [ho]; simp [Op.operands, Call.operands]);rw [hx] at hv;obtain ⟨i, z, hi, hz', hzs⟩ := Go.Ex.zeroK_specL hz
 rcases hm.blk id _ hb with ⟨g1, g2⟩ | ⟨ow, cur, g1, g2, g3, g4, g5, g6, g7⟩
 ·have hl0 : l = [] := by simpa using g2
  subst hl0
  have hex : e' x = .slice none 0 0 := by
   rcases hv with ⟨_, _, _, h⟩ | ⟨ow, h, _⟩
   ·exact h
   ·rw [g1] at h; cases h
  have hrun : (execOp e' o).run E.P w = .ok (.value (.tuple #[])) w := by
   simp [execOp, ho, resolve, invoke, builtin, Builtin.clear_, hex, run_underlying ht]
  rw [hrun];obtain ⟨k1, k2⟩ := j9 (id := id) (x := none) (blk' := .arr e k ((([] : List α).take a).map f0)) none hm ⟨rfl, rfl, rfl, Nat.le_refl _, fun _ _ _ => rfl⟩ (fun _ h => by cases h) (.inr ⟨rfl, .inr g1⟩) (fun _ b _ _ => z4 b) (.inl rfl) (.inl ⟨qy _ _ _, by simp⟩);exact ⟨_, k1, k2, ⟨[], U, O⟩⟩
 ·rw [List.length_map] at g3 g7
  have hcv : ∃ p, e' x = .slice (some ⟨ow.b, p, none⟩) (N - a) (ow.cap - a) ∧ a ≤ N ∧ N ≤ ow.cap ∧ (a < ow.cap → p = ow.o + a * k) := by
   rcases hv with ⟨h, _⟩ | ⟨ow', h, h2, h3, p, h4, h5⟩
   ·rw [g1] at h; cases h
   ·have : ow' = ow := by rw [g1] at h; simpa using h.symm
    subst this;exact ⟨p, h4, h2, h3, h5⟩
  obtain ⟨p, hex, haN, hNc, hp⟩ := hcv
  have hstore : ∃ w' cur', (execOp e' o).run E.P w = .ok (.value (.tuple #[])) w' ∧ w'.heap[ow.b]? = some (.cells cur' e (0, 0)) ∧ cur'.size = cur.size ∧ ((cur'.toList.drop ow.o).take (a * k) = (cur.toList.drop ow.o).take (a * k)) ∧ (∀ b, b ≠ ow.b → w'.heap[b]? = w.heap[b]?) ∧ w'.heap.size = w.heap.size ∧ w'.os = w.os ∧ w'.tape = w.tape ∧ w'.output = w.output := by
   by_cases hz0 : N - a = 0
   ·refine ⟨w, cur, ?_, g2, U, U, fun _ _ => U, U, U, U, U⟩;rw [hz0] at hex
    simp [execOp, ho, resolve, invoke, builtin, Builtin.clear_, hex, run_underlying ht]
   ·have hp := hp (by omega);subst hp;have hcap := g5.resolve_left (by omega)
    have hzsz : z.cells.size = k := by rw [← Array.length_toList, hzs, hk]
    let cs := (Builtin.zeroCells z.cells (N - a)).toList
    have hcs : cs = (List.replicate (N - a) zs).flatten := by
     show (Builtin.zeroCells z.cells (N - a)).toList = _;rw [← hzs, ← Go.Ex.zeros_listL hzsz (N - a)]
     simp [Builtin.zeroCells, hzsz]
    have hclen : cs.length = (N - a) * k := by rw [hcs]; simp [hk]
    have hone : ∀ u ∈ cs, u.oneCell' = true := by
     intro u hu;rw [hcs] at hu;obtain ⟨c, hc, hu⟩ := List.mem_flatten.1 hu;rw [(List.mem_replicate.1 hc).2] at hu;exact List.all_eq_true.1 h1 u hu
    have hmul : a * k + (N - a) * k = N * k := by rw [← Nat.add_mul]; congr 1; omega
    have hNk : N * k ≤ ow.cap * k := Nat.mul_le_mul_right _ hNc;obtain ⟨w', cur', r1, r2, r3, r4, r5, r6, r7, r8⟩ := xt (P := E.P) ow.b (ow.o + a * k) e cs 0 cur w g2 (by omega) hone;refine ⟨w', cur', ?_, r2, ?_, ?_, r4, r5, r6, r7, r8⟩
    ·obtain ⟨m, hm0⟩ : ∃ m, N - a = m + 1 := ⟨N - a - 1, by omega⟩;have hrz := Go.Ex.run_zeroValueL (P := E.P) (w := w) hi hz';rw [hm0] at hex
     have hcs2 : (Builtin.zeroCells z.cells (m + 1)).toList = cs := by simp only [cs, hm0]
     simp [execOp, ho, resolve, invoke, builtin, Builtin.clear_, hex, run_underlying ht, hrz, hcs2, r1]
    ·rw [← Array.length_toList, r3, ← Array.length_toList (xs := cur)];simp only [setAt, List.length_append, List.length_take, List.length_drop, Array.length_toList]
     omega
    ·rw [r3, Nat.add_zero];simp only [setAt];rw [List.append_assoc, List.drop_append_of_le_length (by simp; omega), List.take_append_of_le_length (by simp; omega), List.drop_take, List.take_take]
     congr 1; omega
  obtain ⟨w', cur', hrun, r2, rsz, r3, r4, r5, r6, r7, r8⟩ := hstore;rw [hrun];have hdf : Diff ρ id w w' := ⟨r6, r7, r8, by omega, fun b _ hne => r4 b (hne ow g1)⟩
  have hM : ∀ b, b < w.heap.size → qz M0 (jh ρ id (some ow)) b → qz M0 ρ b := by
   rintro b hb (h | ⟨i, o, h, rfl⟩)
   ·exact .inl h
   ·by_cases hi : i = id
    ·subst hi; rw [qy] at h; cases h; exact .inr ⟨i, ow, g1, rfl⟩
    ·exact .inr ⟨i, o, by simpa [jh, hi] using h, rfl⟩
  have hh : ∀ b, b < w.heap.size → ¬ qz M0 ρ b → w'.heap[b]? = w.heap[b]? := fun b _ hno => r4 b fun he => hno (.inr ⟨id, ow, g1, he.symm⟩);have hkm : ∀ c ∈ l.map f0, c.length = k := g6
  have hta : (l.take a).length = a := by rw [List.length_take]; omega
  have hfl : ((l.take a).map f0).flatten = (l.map f0).flatten.take (a * k) := by rw [List.map_take]; exact (xl (k := k) a hkm).symm
  obtain ⟨k1, k2⟩ := j9 (id := id) (x := some ow) (blk' := .arr e k ((l.take a).map f0)) none hm hdf (fun o ho => by cases ho; exact ⟨.inr ⟨ow, g1, rfl⟩, by rw [r5]; exact (hm.fresh id ow g1).2⟩) (.inr ⟨rfl, .inr g1⟩) (fun _ b _ _ => z4 b) (.inl rfl)
   (.inr ⟨ow, cur', qy _ _ _, r2, by rw [List.length_map, hta]; omega, g4, g5.imp (fun h => h) (fun h => by rw [rsz]; exact h), fun c hc => by
     rw [List.map_take] at hc; exact hkm c (List.mem_of_mem_take hc), by
     rw [List.length_map, hta, r3, hfl];have h5 := g7.take (a * k);rw [List.take_take, Nat.min_eq_left (Nat.mul_le_mul_right k (by omega))] at h5
     exact h5.mono hh hM⟩)
  exact ⟨_, k1, k2, ⟨[], U, O⟩⟩
end
section
variable {E : Env} {w0 : World} {M0 : Nat → Prop}
theorem qps {w : World} {M : Nat → Prop} {ρ : Rho} : ∀ {cs ds : List TV} {us ws : List Value}, TFits w M ρ cs us → TFits w M ρ ds ws → TFits w M ρ (cs ++ ds) (us ++ ws)
 | [], _, [], _, _, h => h
 | _ :: _, _, _ :: _, _, h, k => ⟨h.1, qps h.2 k⟩
 | [], _, _ :: _, _, h, _ => h.elim
 | _ :: _, _, [], _, h, _ => h.elim
instance (pre : List G) (id k hi : Nat) (post : List G) : PartT (.agl pre id k hi post) (pre.map TV.g ++ .osl id k 0 hi :: post.map TV.g) := ⟨fun {w M ρ v} h => by
 obtain ⟨vs, sv, us, rfl, h1, h2, h3⟩ := h;show TFits w M ρ _ (vs ++ sv :: us).toArray.toList;refine qps (qam (ρ := ρ) h1) (show TFits w M ρ (_ :: _) (sv :: us) from ⟨?_, qam (ρ := ρ) h2⟩)
 rcases h3 with ⟨q1, q2, q3⟩ | ⟨ow, p, q1, q2, q3, q4⟩
 ·exact ⟨.inl ⟨q1, U, q2, q3⟩, by rw [q3]; rfl⟩
 ·exact ⟨.inr ⟨ow, q1, Nat.zero_le _, q2, p, by rw [q3]; simp, fun h => by simpa using q4 h⟩, by rw [q3]; rfl⟩⟩
theorem qtz {o : Oper} {ev : Operand → TV} {t : TypeId} {x y : Operand} {id k hi : Nat} {zs : List Value} {pl : List (Nat × Nat)} {gy : G} (ho : o.op = .build t #[(0, x), (1, y)])
  (hz : vq E.P t = some zs) (hz1 : zs.all Value.oneCell' = true) (hp : qaj E.P t = some pl) (hx : ev x = .osl id k 0 hi) (hy : ev y = .g gy) (hy1 : ∀ w M v, gy.p w M v → v.oneCell' = true)
  (hf : ∀ g g' : G, qll (pl.toArray[·]?) (zs.map G.lit) [(0, [g]), (1, [g'])] = some [g, g']) (mem : Mem) : Eff E o mem ev (.agl [] id k hi [gy]) :=
 jd (fun w M ρ e he => by
  have hxv := he x (by rw [ho]; simp [Op.operands]);rw [hx] at hxv;have hyv := he y (by rw [ho]; simp [Op.operands]);rw [hy] at hyv;have hyv : gy.p w M (e y) := hyv
  have hone : (e x).oneCell' = true := by
   rcases hxv with ⟨_, _, _, h0⟩ | ⟨ow, _, _, _, p, h0, _⟩ <;> rw [h0] <;> rfl
  have hone2 := hy1 _ _ _ hyv;unfold vq at hz
  cases hi' : E.P.info? t with
  | none => simp [hi'] at hz
  | some it =>
   cases hzz : it.zero with
   | none => simp [hi', hzz] at hz
   | some z =>
    simp [hi', hzz] at hz
    unfold qaj at hp
    split at hp
    ·rename_i fs hfs
     have hlits : Fits w M (zs.map G.lit) z.cells.toList := by rw [hz]; exact qcp (by simpa using hz1)
     have hpi : ∀ u : Value, u.oneCell' = true → PartIs (G.lit u) [G.lit u] := by
      intro u hu;refine ⟨?_⟩;intro w' M' v h;have hv : v = u := h;rw [hv, qj8 hu];exact ⟨⟨U, hu⟩, O⟩
     have hq : qdk (fun z => TV.g (G.lit (e z))) [(0, x), (1, y)] [(0, [G.lit (e x)]), (1, [G.lit (e y)])] := ⟨rfl, ⟨G.lit (e x), rfl, ⟨hpi _ hone⟩⟩, rfl, ⟨G.lit (e y), rfl, ⟨hpi _ hone2⟩⟩, trivial⟩;obtain ⟨vout, h1, h2⟩ := qdl (w := w) (M := M) (ρ := ρ) (e := e) (ev := fun z => TV.g (G.lit (e z))) (vcells := z.cells) hq (fun q hq => rfl) hlits (hf (G.lit (e x)) (G.lit (e y)))
     have hvo : vout.toList = [e x, e y] := by
      generalize vout.toList = L at h2
      match L, h2 with
      | [a, b], ⟨⟨r1, _⟩, ⟨r2, _⟩, _⟩ =>
       have r1 : a = e x := r1;have r2 : b = e y := r2;rw [r1, r2]
     refine ⟨.agg vout, ?_, [], e x, [e y], ?_, O, ⟨⟨hyv, hone2⟩, O⟩, ?_⟩
     ·have hb : E.P.built t (#[(0, x), (1, y)].map fun (i, x) => (i, e x)).toList = some vout := by
       unfold Program.built;simp only [hi', hfs, hzz, hp];rw [Array.toList_map];exact h1
      have := run_build (P := E.P) w t (#[(0, x), (1, y)].map fun (i, x) => (i, e x)) vout hb;simp only [execOp, ho];rw [Sem.run_bind, this]
      rfl
     ·rw [List.nil_append, ← hvo]
     ·rcases hxv with ⟨q1, q2, q3, q4⟩ | ⟨ow, q1, _, q2, p, q3, q4⟩
      ·exact .inl ⟨q1, q3, q4⟩
      ·exact .inr ⟨ow, p, q1, q2, by simpa using q3, fun h => by simpa using q4 h⟩
    ·cases hp) mem
theorem q6z {k : Nat} {xs : List (List G)} : ∀ w M v, (G.sl k xs).p w M v → v.oneCell' = true := by
 rintro w M v ⟨a, cap, h, _⟩;rw [h]; rfl
theorem qcj {o : Oper} {mem mem' : Mem} {ev : Operand → TV} {r : TV} {kill : Option Nat} (b p : Nat) {cs : List TV} (hb : qq mem b = some (.box cs)) (h : EffW E o ((b, .box (cs.set p .any)) :: mem) ev r mem' kill) : EffW E o mem ev r mem' kill := by
 intro w0 M0 ρ w e hm hx;refine h w0 M0 ρ w e ?_ hx;refine ⟨hm.below, hm.m0, hm.glob, ?_, hm.fresh, hm.inj, hm.keep, hm.lentM, ?_⟩
 ·intro id x h;obtain ⟨blk, hk⟩ := hm.dom id x h
  cases hbq : Nat.beq b id with
  | true => exact ⟨_, by simp only [qq, hbq]; rfl⟩
  | false => exact ⟨blk, by simp only [qq, hbq]; exact hk⟩
 ·intro id blk h;simp only [qq] at h
  cases hbq : Nat.beq b id with
  | true =>
   rw [hbq] at h;have := Nat.eq_of_beq_eq_true hbq;subst this
   have : blk = .box (cs.set p .any) := by simpa using h.symm
   subst this;obtain ⟨ow, ty, vs, g1, g2, g3, g4⟩ := hm.blk b _ hb;exact ⟨ow, ty, vs, g1, g2, g3, TFits.forget p g4⟩
  | false =>
   rw [hbq] at h;exact hm.blk id blk h
end
section
variable {E : Env} {w0 : World} {M0 : Nat → Prop}
def G.ifP (P : Prop) : G := ⟨fun _ _ v => ∃ b : Bool, v = .bool b ∧ (b = true → P), fun h _ _ => h⟩
theorem qkx {α : Type} {f : α → List G} {l : List α} {o : Oper} {ev : Operand → TV} {t t' el : TypeId} {x y : Operand} {k : Nat} (ho : o.op = .binOp .eql t x y t') (ht : E.P.underlying t = some (.slice el)) (hx : ev x = .g (.sl k (l.map f))) (hy : ev y = .g (.lit (.slice none 0 0))) (mem : Mem) : Eff E o mem ev (.g (.ifP (l = []))) :=
 jd (fun w M ρ e he => by
  have h1 := he x (by rw [ho]; simp [Op.operands]);rw [hx] at h1;have h2 := he y (by rw [ho]; simp [Op.operands]);rw [hy] at h2;have h2 : e y = .slice none 0 0 := h2;obtain ⟨a, cap, h3, h4, h5, h6, h7⟩ := h1;rw [List.length_map] at h3 h4;have hq := Go.Ex.run_eqNilL (P := E.P) w 9999 t el a l.length cap 0 0 ht;refine ⟨.bool a.isNone, ?_, a.isNone, U, fun ha => ?_⟩
  ·simp [execOp, ho, h3, h2, eqGuard, binOp, Op.equal, Op.maxDepth, hq]
  ·have ha : a = none := by cases a <;> simp_all
   rcases h7 with ⟨_, h8⟩ | ⟨b, oo, h8, _⟩
   ·have := h8 ha;exact List.eq_nil_of_length_eq_zero (by omega)
   ·rw [ha] at h8; cases h8) mem
theorem qoc {c : Operand} {x y : Code} {P : Prop} {Q : Exit → ASt → Prop} {s : ASt} (hb : s.eval E c = .g (.ifP P)) (ht : P → AWp E w0 M0 x Q s) (hf : AWp E w0 M0 y Q s) : AWp E w0 M0 (.cond c x y) Q s := by
 intro a w ha;obtain ⟨ρ, _, hx⟩ := ha.rel;have hc := hx c;rw [hb] at hc;obtain ⟨b, hc, hP⟩ := hc;have hc' : a.eval c = .bool b := hc
 cases b with
 | true => exact wpIn_cond_true hc' (ht (hP rfl) a w ha)
 | false => exact wpIn_cond_false hc' (hf a w ha)
end
section
variable {E : Env} {w0 : World} {M0 : Nat → Prop}
def NewS (n : Nat) (e : TypeId) (k : Nat) (xs : List (List G)) (post : List G) (w : World) (M : Nat → Prop) (v : Value) : Prop :=
 ∃ (sv : Value) (us : List Value), v = .agg (sv :: us).toArray ∧ ((sv = .slice none 0 0 ∧ xs = [] ∧ Fits w M post us) ∨
  ∃ ow : Own, ∃ vs : Array Value, ∃ p, sv = .slice (some ⟨ow.b, p, none⟩) xs.length ow.cap ∧ (0 < ow.cap → p = ow.o) ∧ n ≤ ow.b ∧ ¬ M ow.b ∧ w.heap[ow.b]? = some (.cells vs e (0, 0)) ∧ xs.length ≤ ow.cap ∧ ow.cap ≤ maxLen ∧
   (ow.cap = 0 ∨ ow.o + ow.cap * k ≤ vs.size) ∧ (∀ c ∈ xs, c.length = k) ∧ Fits w (fun b => M b ∨ b = ow.b) xs.flatten ((vs.toList.drop ow.o).take (xs.length * k)) ∧ Fits w (fun b => M b ∨ b = ow.b) post us)
def ConS (E : Env) (f : FuncId) (args : List G) (e : TypeId) (k : Nat) (xs : List (List G)) (post : List G) : Prop :=
 ∀ w M (vs : List Value), (∀ b, M b → b < w.heap.size) → GlOk E w M → FitsT w M args vs → Calls E.P f vs.toArray w fun e' w' => ∃ v, e' = .returned v ∧ Grow w w' ∧ NewS w.heap.size e k xs post w' M v
theorem ConS.mked {f : FuncId} {args : List G} {e : TypeId} {k : Nat} {xs : List (List G)} {post : List G} (h : ConS E f args e k xs post) : ConS E.mked f args e k xs post := h
theorem qsk {n : Nat} {e : TypeId} {k : Nat} {xs : List (List G)} {post : List G} (hk : 0 < k) {w : World} {M : Nat → Prop} {v : Value} (h : NewS n e k xs post w M v) : (G.agg (.sl k xs :: post)).p w M v := by
 obtain ⟨sv, us, rfl, h⟩ := h
 rcases h with ⟨rfl, rfl, h3⟩ | ⟨ow, vs, p, h1, h1', h2, h3, h4, h5, h6, h7, h8, h9, h10⟩
 ·exact ⟨_, U, ⟨⟨none, 0, U, Nat.le_refl _, Nat.zero_le _, by simp, .inl ⟨rfl, fun _ => rfl⟩⟩, U⟩, h3⟩
 ·refine ⟨_, U, ⟨q1m (n := n) (e := e) hk (.inr ⟨ow, vs, p, h1, h1', h2, h3, h4, h5, h6, h7, h8, h9⟩), by rw [h1]; rfl⟩, h10.mono (fun _ _ _ => U) (fun _ _ h => .inl h)⟩
theorem ConS.con {f : FuncId} {args : List G} {e : TypeId} {k : Nat} {xs : List (List G)} {post : List G} (hk : 0 < k) (h : ConS E f args e k xs post) : Con E f args (.agg (.sl k xs :: post)) :=
 fun w M vs h1 h2 h3 => (h w M vs h1 h2 h3).mono fun _ _ ⟨v, h4, h5, h6⟩ => ⟨v, h4, h5, qsk hk h6⟩
def q60 (E : Env) (fn : Func) (e : TypeId) (k : Nat) (xs : List (List G)) (gp : G) : Exit → ASt → Prop
 | .ret, s | .normal, s => ∃ t ty b id N, fn.results = #[.cell t ty] ∧ tyK E.P ty = some (2, true) ∧ s.get t = .ptr b 0 ∧ qq s.mem b = some (.box [.osl id k 0 N, .g gp]) ∧ qq s.mem id = some (.arr e k xs) ∧ xs.length = N
 | _, _ => False
theorem qt0 {f : FuncId} {fn : Func} {c : Code} {args : List G} {e : TypeId} {k : Nat} {xs : List (List G)} {gp : G} (hf : E.P.funcs[f]? = some fn) (hb : fn.body = some c) (hn0 : Nat.ble args.length fn.ntmps = true)
  (h : ∀ w0 M0, AWp E w0 M0 c (q60 E fn e k xs gp) ⟨fn.ntmps, qdf args, []⟩) (hbw : E.bow = [] := by rfl) (hrn : E.rnd = none := by rfl) (hdf : E.mks = false := by rfl) (hnb : E.nb = 0 := by rfl) : ConS E f args e k xs [gp] := by
 intro w M vs hM hgl hv;have hn := Nat.le_of_ble_eq_true hn0;have hlen := hv.length;refine calls_of_wp hf hb ?_
 have ha : ARel E w M ⟨fn.ntmps, qdf args, []⟩ { tmps := vs.toArray ++ Array.replicate (fn.ntmps - vs.toArray.size) undef, defers := [] } w := by
  refine ⟨fun _ => U, ?_, fun _ => none, ?_, Marks.nil, ?_⟩
  ·simp; omega
  ·refine ⟨BelowX.refl _ w, hM, ?_, ?_, ?_, ?_, (fun id x h => by rw [hbw] at h; cases h), ⟨(fun b h => absurd h (qal hbw)), Nat.le_trans (Nat.le_of_eq hnb) (Nat.zero_le _)⟩, ?_⟩
   ·intro g vs hg;have := hgl g vs hg
    have hiff : ∀ b, qz M (fun _ => none) b → M b := by rintro b (h | ⟨_, _, h, _⟩); exact h; cases h
    exact ⟨⟨fun h => this.1.1 (hiff _ h), this.1.2⟩, this.2.mono (fun _ _ _ => U) (fun b _ h => hiff b h) this.1.1⟩
   ·intro _ _ h; cases h
   ·intro _ _ h; cases h
   ·intro _ _ _ _ h; cases h
   ·intro _ _ h; cases h
  ·intro i;have hv' : FitsT w (qz M (fun _ => none)) args vs := hv.mono (fun _ _ _ => rfl) (by rintro b _ (h | ⟨_, _, h, _⟩); exact h; cases h);have := qcn (ρ := fun _ => none) (fn.ntmps - vs.length) hv' i;show TRel _ _ _ (qdf args i) _;rw [Array.getD_eq_getD_getElem?];rw [show (vs.toArray ++ Array.replicate (fn.ntmps - vs.toArray.size) undef) = (vs ++ List.replicate (fn.ntmps - vs.length) undef).toArray by simp];rw [List.getElem?_toArray];exact this
 refine wp_mono (qlw (h w M _ w ha) hrn) ?_;rintro ex a' w' ⟨s', ha', hq⟩;have fin : (∃ t ty b id N, fn.results = #[.cell t ty] ∧ tyK E.P ty = some (2, true) ∧ s'.get t = .ptr b 0 ∧ qq s'.mem b = some (.box [.osl id k 0 N, .g gp]) ∧ qq s'.mem id = some (.arr e k xs) ∧ xs.length = N) →
   a'.defers = [] ∧ ∃ v, (results fn a'.tmps).run E.P w' = .ok v w' ∧ (∃ u, Ending.returned v = .returned u ∧ Grow w w' ∧ NewS w.heap.size e k xs [gp] w' M u) := by
  rintro ⟨t, ty, b, id, N, hr, hty, hp, hbx, h3, rfl⟩;obtain ⟨ρ, hm, _, ht⟩ := ha'.ex;have h1 := ht t;rw [hp] at h1;obtain ⟨owb, g1, g2⟩ := h1;obtain ⟨owb', eb, cs, q1, q2, q3, q4⟩ := hm.blk b _ hbx
  have : owb' = owb := by rw [g1] at q1; simpa using q1.symm
  subst this
  match cs, q4 with
  | [sv, u], ⟨⟨r1, r2⟩, ⟨r3, r4⟩, _⟩ =>
  have hc : ∀ j v, [sv, u][j]? = some v → w'.cell? ⟨owb'.b, owb'.o + 0 + j, none⟩ = some v := by
   intro j v hj;rw [cell_of_row w' _ _ _ _ _ q3, q2]
   simpa using hj
  have hres : (results fn a'.tmps).run E.P w' = .ok (.agg [sv, u].toArray) w' := by
   rw [qdj, hr];have := kd hty (show [sv, u].length = 2 from rfl) hc;rw [Nat.add_zero] at this
   simp [qiq, g2, asAddr, this]
  refine ⟨ha'.defers hdf, _, hres, _, U, hm.below.grow (fun _ => ww hbw), sv, [u], U, ?_⟩;have hnol : ∀ b', (M b' ∨ E.lentK b') → M b' := fun b' h => h.elim (fun h => h) (fun h => absurd h (qal hbw))
  rcases r1 with ⟨k1, _, k2, k3⟩ | ⟨ow, k1, _, k2, p, k3, k4⟩
  ·exact .inl ⟨k3, List.eq_nil_of_length_eq_zero k2, ⟨gp.mono r3 (fun _ _ _ => U) (fun _ _ h => .inl h), r4⟩, O⟩
  ·rcases hm.blk id _ h3 with ⟨l1, l2⟩ | ⟨ow', vs', l1, l2, l3, l4, l5, l6, l7⟩
   ·rw [k1] at l1; cases l1
   ·have : ow' = ow := by rw [k1] at l1; simpa using l1.symm
    subst this;have hno : ¬ M ow'.b := fun h => qbe hm k1 (by rw [hbw]; rfl) (by unfold wn; rw [hbw]; rfl) (.inl h)
    have hnl : w.heap.size ≤ ow'.b := by
     rcases (hm.fresh id ow' k1).1 with h | h
     ·exact h
     ·exact absurd h (ww hbw)
    have hsub : ∀ b', b' < w'.heap.size → (M b' ∨ b' = ow'.b) → qz M ρ b' := fun b' _ hb' => hb'.elim .inl fun h => .inr ⟨id, ow', k1, h.symm⟩;exact .inr ⟨ow', vs', p, by simpa using k3, fun h => by simpa using k4 h, hnl, hno, l2, l3, l4, l5, l6, l7.mono (fun _ _ _ => rfl) hsub, ⟨gp.mono r3 (fun _ _ _ => rfl) hsub, r4⟩, trivial⟩
 cases ex with
 | ret => exact fin hq
 | normal => exact fin hq
 | _ => exact hq.elim
theorem zbu {fn : Func} {e : TypeId} {k : Nat} {gp : G} {s : ASt} {t : Nat} {ty : TypeId} {b id : Nat} {α : Type} {f : α → List G} {l : List α} {N : Nat} (hr : fn.results = #[.cell t ty]) (ht : tyK E.P ty = some (2, true)) (hp : s.get t = .ptr b 0) (hb : qq s.mem b = some (.box [.osl id k 0 N, .g gp]))
  (hi : qq s.mem id = some (.arr e k (l.map f))) (hN : (l.map f).length = N) : q60 E fn e k (l.map f) gp .ret s := ⟨t, ty, b, id, N, hr, ht, hp, hb, hi, hN⟩
theorem qsl {ρ : Rho} {mem : Mem} {w w' : World} {id : Nat} {e : TypeId} {k : Nat} {xs : List (List G)} {post : List G} {v : Value} (hm : MRel E w0 M0 ρ mem w) (hf : qq mem id = none) (hg : Grow w w') (h : NewS w.heap.size e k xs post w' (qz M0 ρ) v) :
  ∃ ρ', MRel E w0 M0 ρ' ((id, .arr e k xs) :: mem) w' ∧ Kept M0 none ρ w ρ' w' ∧ TRel w' (qz M0 ρ') ρ' (.agl [] id k xs.length post) v := by
 have hr := qbu hm hf;have hd : Diff ρ id w w' := ⟨hg.os, hg.tape, hg.output, hg.size, fun b hb _ => hg.block b hb⟩;obtain ⟨sv, us, rfl, h⟩ := h
 rcases h with ⟨rfl, rfl, hp⟩ | ⟨ow, vs, p, rfl, h1', h2, h3, h4, h5, h6, h7, h8, h9, h10⟩
 ·obtain ⟨k1, k2⟩ := j9 (id := id) (x := none) (blk' := .arr e k []) none hm hd (fun _ h => by cases h) (.inr ⟨rfl, .inl hr⟩) (fun _ b _ _ => z4 b) (.inl rfl) (.inl ⟨qy _ _ _, rfl⟩);refine ⟨_, k1, k2, [], _, us, U, O, hp.mono (fun _ _ _ => U) ?_, .inl ⟨qy _ _ _, U, U⟩⟩;rintro b _ (h | ⟨i, o, h, rfl⟩)
  ·exact .inl h
  ·by_cases hi : i = id
   ·subst hi; rw [qy] at h; cases h
   ·exact .inr ⟨i, o, by simpa [jh, hi] using h, rfl⟩
 ·have hlt : ow.b < w'.heap.size := (Array.getElem?_eq_some_iff.1 h4).1
  have hown : ∀ b, qz M0 (jh ρ id (some ow)) b → qz M0 ρ b ∨ b = ow.b := by
   rintro b (h | ⟨i, o, h, rfl⟩)
   ·exact .inl (.inl h)
   ·by_cases hi : i = id
    ·subst hi; rw [qy] at h; cases h; exact .inr rfl
    ·exact .inl (.inr ⟨i, o, by simpa [jh, hi] using h, rfl⟩)
  obtain ⟨k1, k2⟩ := j9 (id := id) (x := some ow) (blk' := .arr e k xs) none hm hd (fun o ho => by cases ho; exact ⟨.inl h2, hlt⟩) (.inr ⟨rfl, .inl hr⟩) (fun _ b _ _ => z4 b) (.inl rfl)
   (.inr ⟨ow, vs, qy _ _ _, h4, h5, h6, h7, h8, h9.mono (fun _ _ _ => rfl) (fun b _ hb => hown b hb)⟩)
  exact ⟨_, k1, k2, [], _, us, U, O, h10.mono (fun _ _ _ => U) (fun b _ hb => hown b hb), .inr ⟨ow, p, qy _ _ _, h5, U, h1'⟩⟩
theorem ql9 {α : Type} {f0 : α → List G} {l : List α} {o : Oper} {mem : Mem} {ev : Operand → TV} {f : FuncId} {aps : Array Operand} {ts : Array TypeId} {args : List G} {e : TypeId} {k : Nat} {post : List G} (id : Nat) (ho : o.op = .call ⟨.value (.func f), aps, ts⟩)
  (hk : ze E.P f) (hev : ev (.func f) = .g (.lit (.func (.func f) #[] #[]))) (hc : ConS E f args e k (l.map f0) post) (ha : aps.toList.map ev = args.map TV.g) (hf : qq mem id = none) : EffW E o mem ev (.agl [] id k l.length post) ((id, .arr e k (l.map f0)) :: mem) none := by
 intro w0 M0 ρ w e' hm hx;obtain ⟨fn, h1, h2, h3⟩ := hk
 have hef : e' (.func f) = .func (.func f) #[] #[] := by
  have := hx (.func f) (by rw [ho]; simp [Op.operands, Call.operands]);rw [hev] at this;exact this
 have hv : FitsT w (qz M0 ρ) args (aps.toList.map e') := qae (fun x hx' => hx x (by rw [ho]; simp [Op.operands, Call.operands]; exact .inr (by simpa using hx'))) ha
 have hrun : (execOp e' o).run E.P w = .ok (.enter f (aps.toList.map e').toArray) w := by
  simp [execOp, ho, resolve, hef, Deferred.ofValue, invoke, kr h1 h2 h3, ← Array.toList_map]
 rw [hrun];refine (hc w (qz M0 ρ) _ hm.lt hm.glob hv).mono ?_;rintro _ w' ⟨v, rfl, hg, hr⟩;obtain ⟨ρ', g1, g2, g3⟩ := qsl hm hf hg hr;rw [List.length_map] at g3;exact ⟨v, U, ρ', g1, g2, g3⟩
end
theorem qgt {E : Env} {o : Oper} {ev : Operand → TV} {x y : G} (h : ∀ mem, Eff E o mem ev (.g x)) (hs : GSub x y) (mem : Mem) : Eff E o mem ev (.g y) := by
 intro w0 M0 ρ w e hm he;have := h mem w0 M0 ρ w e hm he
 revert this
 generalize (execOp e o).run E.P w = r
 cases r with
 | halt a b => exact id
 | ok n w' =>
  cases n with
  | value v => exact fun ⟨g, k⟩ => ⟨g, hs _ _ _ k⟩
  | enter f args =>
   intro hh;refine Calls.mono hh ?_;rintro e w'' ⟨v, h1, h2, h3⟩;exact ⟨v, h1, h2, hs _ _ _ h3⟩
  | skip =>
   rintro ⟨g, k⟩;exact ⟨g, hs _ _ _ k⟩
  | _ => exact id
section
variable {E : Env} {w0 : World} {M0 : Nat → Prop}
theorem qod {a : Act} {w : World} {s : ASt} {b p k : Nat} {cs : List TV} (ha : ARel E w0 M0 s a w) (hb : qq s.mem b = some (.box cs)) (hc : cs[p]? = some (.g (.lit (.slice none 0 0)))) :
  ARel E w0 M0 ⟨s.n, s.tmps, (b, .box (cs.set p (.g (G.sl k [])))) :: s.mem⟩ a w := by
 obtain ⟨ρ, hm, hmk, ht⟩ := ha.ex;obtain ⟨ow, ty, vs, g1, g2, g3, g4⟩ := hm.blk b _ hb;obtain ⟨v, h4, h5, _⟩ := TFits.get p g4 hc;have hv : v = .slice none 0 0 := h5;subst hv;obtain ⟨n1, n2⟩ := j9 (id := b) (x := some ow) (blk' := .box (cs.set p (.g (G.sl k [])))) none hm ⟨rfl, rfl, rfl, Nat.le_refl _, fun _ _ _ => rfl⟩ (fun o ho => by cases ho; exact ⟨.inr ⟨ow, g1, rfl⟩, (hm.fresh b ow g1).2⟩) (.inr ⟨rfl, .inr g1⟩) (fun _ b _ _ => z4 b) (.inl rfl)
  ⟨ow, ty, vs, qy _ _ _, g2, g3, by rw [qjt g1]; exact TFits.give (show TRel w (qz M0 ρ) ρ (.g (G.sl k [])) (.slice none 0 0) from qki k w _) p g4 h4⟩
 exact ⟨ha.defers, ha.size, _, n1, ⟨hmk.1, fun d hd => by
   obtain ⟨D, q1, q2, q3⟩ := hmk.2 d hd
   exact ⟨D, q1, q2, by rw [qjt g1]; exact q3⟩⟩, fun i => by rw [qjt g1]; exact ht i⟩
theorem qq6 {c : Code} {Q : Exit → ASt → Prop} {s : ASt} (b p k : Nat) {cs : List TV} (hb : qq s.mem b = some (.box cs)) (hc : cs[p]? = some (.g (.lit (.slice none 0 0))))
  (h : AWp E w0 M0 c Q ⟨s.n, s.tmps, (b, .box (cs.set p (.g (G.sl k [])))) :: s.mem⟩) : AWp E w0 M0 c Q s := fun a w ha => h a w (qod ha hb hc)
end
section
variable {E : Env} {w0 : World} {M0 : Nat → Prop}
theorem qt1 {o : Oper} {mem : Mem} {ev : Operand → TV} {t : TypeId} {zs : List Value} {N k : Nat} {c : List G} (id : Nat) (ho : o.op = .alloc t) (hz : vq E.P t = some zs) (hz1 : zs.all Value.oneCell' = true) (hN : N ≤ maxLen)
  (hc : zs.map G.lit = (List.replicate N c).flatten) (hk : c.length = k) (hf : qq mem id = none) :
  EffW E o mem ev (.eptr id k 0 0) ((id, .arr t k (List.replicate N c)) :: mem) none := by
 intro w0 M0 ρ w e hm _;have hr0 := qbu hm hf;have hg := Grow.alloc w (.cells zs.toArray t)
 have hM : ∀ b, b < w.heap.size → qz M0 (jh ρ id (some ⟨w.heap.size, 0, N⟩)) b → qz M0 ρ b := by
  rintro b hb (h | ⟨i, o, h, rfl⟩)
  ·exact .inl h
  ·by_cases hi : i = id
   ·subst hi; rw [qy] at h; cases h; simp at hb
   ·exact .inr ⟨i, o, by simpa [jh, hi] using h, rfl⟩
 have hzf : Fits w (qz M0 ρ) (List.replicate N c).flatten zs := by rw [← hc]; exact qcp (fun v hv => List.all_eq_true.1 hz1 v hv)
 have hzl : zs.length = N * k := by rw [hzf.length]; simp [hk]
 have hrun : (execOp e o).run E.P w = .ok (.value (.pointer (some ⟨w.heap.size, 0, none⟩))) (w.alloc (.cells zs.toArray t)) := by
  simp [execOp, ho, qo6 hz]
 rw [hrun];obtain ⟨g1, g2⟩ := j9 (id := id) (x := some ⟨w.heap.size, 0, N⟩) (blk' := .arr t k (List.replicate N c)) none hm (qdm ρ id w (.cells zs.toArray t)) (fun o ho => by cases ho; exact ⟨.inl (Nat.le_refl _), by simp⟩) (.inr ⟨rfl, .inl hr0⟩) (fun _ b _ _ => z4 b) (.inl rfl)
  (.inr ⟨⟨w.heap.size, 0, N⟩, _, qy _ _ _, heap_alloc_new w _, by simp, hN, .inr (by show 0 + N * k ≤ _; simp [hzl]), fun d hd => by
   rw [List.eq_of_mem_replicate hd]; exact hk, by
   show Fits _ _ _ ((List.drop 0 _).take _);rw [List.drop_zero, List.length_replicate, List.take_of_length_le (by simp [hzl])]
   exact hzf.mono hg.hh hM⟩)
 exact ⟨_, g1, g2, ⟨w.heap.size, 0, N⟩, qy _ _ _, by simp⟩
theorem qck {o : Oper} {ev : Operand → TV} {t el : TypeId} {x ix : Operand} {k id N : Nat} {b : Bool} {kk : IntKind} {n : Int} (ho : o.op = .indexAddr t x ix)
  (ht : E.P.underlying t = some (.array N el)) (he : tyK E.P el = some (k, b)) (hx : ev x = .eptr id k 0 0) (hi' : ev ix = .g (.lit (.int kk n))) (h0 : 0 ≤ n) (hn : n.toNat < N) (mem : Mem) :
  Eff E o mem ev (.eptr id k n.toNat 0) :=
 jd (fun w M ρ e' hev => by
  have h1 := hev x (by rw [ho]; simp [Op.operands]);rw [hx] at h1;have h2 := hev ix (by rw [ho]; simp [Op.operands]);rw [hi'] at h2;have h2' : e' ix = .int kk n := h2;obtain ⟨ow, g1, g2⟩ := h1
  have hn' : n < (N : Int) := by omega
  refine ⟨.pointer (some ⟨ow.b, ow.o + n.toNat * k, none⟩), ?_, ow, g1, by simp⟩;simp only [execOp, ho, g2, h2']
  simp [Instr.indexAt, asIntOf, underlying, ht, jq he, h0, hn', Instr.sureAddr, Addr.add_lit]) mem
end
section
variable {E : Env} {w0 : World} {M0 : Nat → Prop}
theorem qzo {α β : Type} (N : Nat) (a : α) (f : α → β) : (List.replicate N a).map f = (List.replicate N [f a]).flatten := by
 induction N with
 | zero => rfl
 | succ n ih => simp [List.replicate_succ, ih]
theorem qma {α : Type} {f : α → List G} {a : α} {o : Oper} {mem : Mem} {ev : Operand → TV} {t : TypeId} {z : Value} {N : Nat} (id : Nat) (ho : o.op = .alloc t) (hz : vq E.P t = some (List.replicate N z)) (hz1 : z.oneCell' = true) (hN : N ≤ maxLen)
  (hfa : f a = [G.lit z]) (hf : qq mem id = none) : EffW E o mem ev (.eptr id 1 0 0) ((id, .arr t 1 (List.map f (List.replicate N a))) :: mem) none := by
 rw [List.map_replicate, hfa];exact qt1 id ho hz (by simp [hz1]) hN (qzo N z G.lit) U hf
theorem q3z {o : Oper} {ev : Operand → TV} {t el : TypeId} {x ix : Operand} {b : Bool} {N : Nat} {kk : IntKind} {n : Int} {cs : List G} {c : G} (ho : o.op = .indexAddr t x ix)
  (ht : E.P.underlying t = some (.array N el)) (he : tyK E.P el = some (1, b)) (hx : ev x = .g (.ref cs)) (hi' : ev ix = .g (.lit (.int kk n))) (h0 : 0 ≤ n) (hn : n.toNat < N) (hc : cs[n.toNat]? = some c) (mem : Mem) :
  Eff E o mem ev (.g (.ref [c])) :=
 jd (fun w M ρ e' hev => by
  have h1 := hev x (by rw [ho]; simp [Op.operands]);rw [hx] at h1;have h2 := hev ix (by rw [ho]; simp [Op.operands]);rw [hi'] at h2;have h2' : e' ix = .int kk n := h2;obtain ⟨bl, off, g1, g2, g3⟩ := h1
  have hn' : n < (N : Int) := by omega
  have hne : cs ≠ [] := by rintro rfl; simp at hc
  refine ⟨.pointer (some ⟨bl, off + n.toNat * 1, none⟩), ?_, bl, off + n.toNat, by simp, ?_, ?_⟩
  ·simp only [execOp, ho, g1, h2']
   simp [Instr.indexAt, asIntOf, underlying, ht, jq he, h0, hn', Instr.sureAddr, Addr.add_lit]
  ·rcases g2 with g2 | g2
   ·exact absurd g2 hne
   ·exact .inr g2
  ·have hd := Cells.drop n.toNat g3;obtain ⟨hlt, hge⟩ := List.getElem?_eq_some_iff.1 hc;rw [List.drop_eq_getElem_cons hlt, hge] at hd
   exact ⟨hd.1, O⟩) mem
theorem q61 {l : List Int} {i y : Int} (h : ixO l i = some y) : (l.map G.int)[i.toNat]? = some (G.int y) := by rw [List.getElem?_map, zh h]; rfl
theorem q30 {α : Type} {l : List α} {i : Int} {y : α} (h : ixO l i = some y) : i < (l.length : Int) := by
 have h1 := (List.getElem?_eq_some_iff.1 (zh h)).1;have h2 := jj h
 omega
theorem qt2 (l : List Bool) : (l.map cBool).flatten = l.map G.bool := by
 induction l with
 | nil => rfl
 | cons a t ih => simp [cBool, ih]
theorem q62 {s : ASt} {t id : Nat} {e : TypeId} {l : List Bool} (h : s.get t = .eptr id 1 0 0) (hb : qq s.mem id = some (.arr e 1 (l.map cBool))) (hbw : qq E.bow id = none := by rfl) (hst : wn E = true := by rfl) : RVal E s (.tmp t) (.ref (l.map G.bool)) := by
 intro w0 M0 ρ w tmps hm ht;have h1 := ht t;rw [h] at h1;obtain ⟨ow, g1, g2⟩ := h1;refine ⟨tmps.getD t undef, U, ?_, fun _ _ => U⟩
 rcases hm.blk id _ hb with ⟨q1, _⟩ | ⟨ow', cur, q1, q2, q3, q4, q5, q6, q7⟩
 ·rw [g1] at q1; cases q1
 have : ow' = ow := by rw [g1] at q1; simpa using q1.symm
 subst this;refine ⟨ow'.b, ow'.o, by rw [g2]; simp, .inr (qbe hm g1 hbw hst), ?_⟩;rw [qt2] at q7
 have q8 : Fits w (fun b => M0 b ∨ E.lentK b) (l.map G.bool) ((cur.toList.drop ow'.o).take ((l.map cBool).length * 1)) := by
  have : ∀ (gs : List Bool) (vs : List Value), Fits w (qz M0 ρ) (gs.map G.bool) vs → Fits w (fun b => M0 b ∨ E.lentK b) (gs.map G.bool) vs := by
   intro gs
   induction gs with
   | nil => intro vs h; cases vs with
    | nil => exact h
    | cons _ _ => exact h.elim
   | cons a t ih =>
    intro vs h
    cases vs with
    | nil => exact h.elim
    | cons v vs => exact ⟨h.1, ih vs h.2⟩
  exact this _ _ q7
 refine jx q2 q8 fun j v hj => ?_;rw [List.getElem?_take] at hj
 split at hj
 ·rw [List.getElem?_drop] at hj; simpa using hj
 ·cases hj
theorem qt3 (l : List Bool) : (G.ref (l.map G.bool)).inert := by
 rintro w M u D o ⟨b, k, h1, h2, h3⟩ hD;exact ⟨b, k, h1, h2, qfw (fun c hc => by obtain ⟨x, _, rfl⟩ := List.mem_map.1 hc; exact xr _) h3 hD⟩
theorem qpt {α : Type} {k : Nat} {f : α → List G} {l : List α} (h : ∀ x, ∀ c ∈ f x, c.inert) : (G.sl k (l.map f)).inert :=
 qzp fun c hc => by
  obtain ⟨y, h1, h2⟩ := List.mem_flatten.1 hc;obtain ⟨x, _, rfl⟩ := List.mem_map.1 h1;exact h x c h2
end
section
variable {E : Env} {w0 : World} {M0 : Nat → Prop}
def G.slF (n k : Nat) (xs : List (List G)) : G :=
 ⟨fun w M u => ∃ a cap, u = .slice a xs.length cap ∧ xs.length ≤ cap ∧ cap ≤ maxLen ∧ (∀ c ∈ xs, c.length = k) ∧
   ((xs.flatten = [] ∧ (a = none → cap = 0)) ∨ ∃ b o, a = some ⟨b, o, none⟩ ∧ n ≤ b ∧ ¬ M b ∧ Cells w M b o xs.flatten), fun {w w' M M' u} h hh hM => by
  obtain ⟨a, cap, h1, h2, h3, h4, h5⟩ := h;refine ⟨a, cap, h1, h2, h3, h4, ?_⟩
  rcases h5 with h5 | ⟨b, o, h5, hn, h6, h7⟩
  ·exact .inl h5
  ·by_cases hc : xs.flatten = []
   ·exact .inl ⟨hc, fun e => by rw [e] at h5; cases h5⟩
   ·exact .inr ⟨b, o, h5, hn, Cells.not_mono hM h6 hc h7, h7.mono hh hM h6⟩⟩
instance (n k : Nat) (xs : List (List G)) : One (.slF n k xs) := ⟨fun ⟨_, _, h, _⟩ => by rw [h]; rfl⟩
def Env.fresh (E : Env) (n : Nat) : Env := ⟨E.P, E.gl, E.orders, E.bow, E.rnd, E.mks, n⟩
def ConF (E : Env) (f : FuncId) (args : List G) (r : Nat → G) : Prop :=
 ∀ w M (vs : List Value), (∀ b, M b → b < w.heap.size) → GlOk E w M → FitsT w M args vs → Calls E.P f vs.toArray w fun e' w' => ∃ v, e' = .returned v ∧ Grow w w' ∧ (r w.heap.size).p w' M v
theorem ConF.arg {f : FuncId} {x y : G} {gs : List G} {r : Nat → G} (h : ConF E f (y :: gs) r) (hs : GSub x y) : ConF E f (x :: gs) r := by
 intro w M vs hM hgl hv
 match vs, hv with
 | v :: vs, hv => exact h w M _ hM hgl ⟨hs _ _ _ hv.1, hv.2⟩
 | [], hv => exact hv.elim
end
theorem qsm : ∀ {l : List Int} (k : Nat), wy l k = 0 ↔ ∀ x ∈ l, x = 0
 | [], k => by simp [wy]
 | y :: t, k => by
  rw [wy]
  by_cases h : y = 0
  ·subst h; simp [qsm (l := t) (k + 1)]
  ·simp [h]
theorem j8 {l : List Int} : vr l = 0 ↔ ∀ x ∈ l, x = 0 := qsm 0
theorem xj {b : Bool} {e : Int} (he : e ≠ 0) : xk b e = 0 ↔ b = false := by
 unfold xk; cases b <;> simp [he]
theorem qdr {n lo hi : Int} : qbk n lo hi = 0 ↔ lo ≤ n ∧ n ≤ hi := by
 unfold qbk; rw [xj (by decide)]; simp
theorem qhr {s : ByteArray} : qky s = 0 ↔ s = (⟨#[]⟩ : ByteArray) ∨ s147 s = true := by
 unfold qky; rw [xj (by decide)]
 by_cases h : s = (⟨#[]⟩ : ByteArray)
 ·simp [h]
 ·simp [h]
theorem qmb {s : ByteArray} : qoe s = 0 ↔ s = (⟨#[65]⟩ : ByteArray) ∨ s = (⟨#[68]⟩ : ByteArray) := by
 unfold qoe; rw [xj (by decide)]
 by_cases h : s = (⟨#[65]⟩ : ByteArray)
 ·simp [h]
 ·simp [h]
theorem qv9 {s : ByteArray} (h : s147 s = true) : s.size ≤ 24 := by
 unfold s147 at h
 cases hc : ((decide ((ByteArray.size s : Int) = 0)) || (decide (24 < (ByteArray.size s : Int)))) with
 | true => rw [hc] at h; cases h
 | false => simp at hc; omega
theorem qmc {a : S2062} : qgu a = 0 ↔ s147 a.Name = true ∧ mhas kindL a.Kind = true ∧ (a.Terminal = (⟨#[]⟩ : ByteArray) ∨ s147 a.Terminal = true) ∧ (1 ≤ a.Length ∧ a.Length ≤ 1440) ∧ (1 ≤ a.Step ∧ a.Step ≤ 1440) ∧ (0 ≤ a.fFrom ∧ a.fFrom ≤ 1439) ∧ (0 ≤ a.fTo ∧ a.fTo ≤ 1439) ∧ a.fFrom ≤ a.fTo ∧ s102 a.Period = 0 ∧ (0 ≤ a.Most ∧ a.Most ≤ 999999999) := by
 unfold qgu;rw [j8];simp only [List.mem_cons, List.not_mem_nil, or_false, forall_eq_or_imp, forall_eq, qdr, qhr, xj (e := 8) (by decide), xj (e := 13) (by decide), xj (e := 11) (by decide), Bool.not_eq_false', decide_eq_false_iff_not, Int.not_lt]
theorem q63 {a : S2062} (h : qgu a = 0) : LimOk a := by
 obtain ⟨_, h1, _, h2, h3, h4, h5, _, h6, h7⟩ := qmc.1 h;have h8 := j7 _ h6;refine ⟨?_, h3.1, h3.2, h2.1, h2.2, h4.1, h4.2, h5.1, h5.2, h8.1, by omega, h7.1, h7.2⟩;unfold mhas at h1;unfold vd
 cases hq : mget kindL a.Kind with
 | none => rw [hq] at h1; cases h1
 | some v =>
  have : a.Kind = (⟨#[65]⟩ : ByteArray) ∨ a.Kind = (⟨#[68]⟩ : ByteArray) ∨ a.Kind = (⟨#[84]⟩ : ByteArray) := by
   have := qn7 hq;simp only [kindL, List.mem_cons, Prod.mk.injEq, List.not_mem_nil, or_false] at this
   rcases this with h | h | h
   ·exact .inl h.1
   ·exact .inr (.inl h.1)
   ·exact .inr (.inr h.1)
  have := qwa.2 this;unfold vd at this;rw [hq] at this;exact this
theorem qpu : ∀ {all t : List S2062} {k : Nat}, qbg all t k = 0 → ∀ x ∈ t, qgu x = 0
 | all, [], k, _, x, hx => by cases hx
 | all, y :: t, k, h, x, hx => by
  rw [qbg] at h
  by_cases hc : vr [(qgu y), (xk (decide (0 ≤ (qkz (List.take (Int.toNat ((k : Nat) : Int)) all) y.Name))) 9)] = 0
  ·rw [decide_eq_false (by simpa using hc), cond_false] at h
   rcases List.mem_cons.1 hx with rfl | hx
   ·exact j8.1 hc _ (by simp)
   ·exact qpu h x hx
  ·rw [decide_eq_true hc, cond_true] at h;exact absurd h hc
theorem qnq {a0 : List S2062} (h : qa8 a0 = 0) : a0.length ≤ 32 ∧ ∀ x ∈ a0, LimOk x := by
 unfold qa8 at h
 by_cases hc : 32 < (List.length a0 : Int)
 ·rw [decide_eq_true hc, cond_true] at h; cases h
 ·rw [decide_eq_false hc, cond_false] at h;exact ⟨by omega, fun x hx => q63 (qpu h x hx)⟩
structure MvOk (m : S1079) : Prop where
 m0 : 0 ≤ m.Moment
 m1 : m.Moment ≤ 143999999
 k : m.Kind = (⟨#[65]⟩ : ByteArray) ∨ m.Kind = (⟨#[68]⟩ : ByteArray)
 t : m.Terminal = (⟨#[]⟩ : ByteArray) ∨ s147 m.Terminal = true
 s0 : 0 ≤ m.Seats
 s1 : m.Seats ≤ 999
 z0 : 0 ≤ m.Size
 z1 : m.Size ≤ 9
 n0 : 0 ≤ m.Noise
 n1 : m.Noise ≤ 99
 nm : s147 m.Name = true
theorem qmd {a b c : Int} : qof a b c = 0 ↔ (0 ≤ a ∧ a ≤ 999) ∧ (0 ≤ b ∧ b ≤ 9) ∧ (0 ≤ c ∧ c ≤ 99) := by
 unfold qof;rw [j8];simp only [List.mem_cons, List.not_mem_nil, or_false, forall_eq_or_imp, forall_eq, qdr]
theorem qq7 {m : S1079} : qbl m = 0 ↔ MvOk m := by
 unfold qbl;rw [j8];simp only [List.mem_cons, List.not_mem_nil, or_false, forall_eq_or_imp, forall_eq, qdr, qmb, qhr, qmd, xj (e := 8) (by decide), Bool.not_eq_false'];exact ⟨fun ⟨h1, h2, h3, ⟨h4, h5, h6⟩, h7⟩ => ⟨h1.1, h1.2, h2, h3, h4.1, h4.2, h5.1, h5.2, h6.1, h6.2, h7⟩, fun h => ⟨⟨h.m0, h.m1⟩, h.k, h.t, ⟨⟨h.s0, h.s1⟩, ⟨h.z0, h.z1⟩, ⟨h.n0, h.n1⟩⟩, h.nm⟩⟩
def ascM : Option Int → List S1079 → Prop
 | _, [] => True
 | p, y :: t => (∀ x, p = some x → x ≤ y.Moment) ∧ ascM (some y.Moment) t
theorem qsn : ∀ {t : List S1079} {x : Int}, ascM (some x) t → ∀ y ∈ t, x ≤ y.Moment
 | [], _, _, y, hy => by cases hy
 | z :: t, x, h, y, hy => by
  rcases List.mem_cons.1 hy with rfl | hy
  ·exact h.1 x U
  ·exact Int.le_trans (h.1 x U) (qsn h.2 y hy)
theorem qso : ∀ {t : List S1079} {p : Option Int}, ascM p t → (t.map S1079.Moment).Pairwise (· ≤ ·)
 | [], _, _ => .nil
 | y :: t, p, h => by
  rw [List.map_cons, List.pairwise_cons]
  exact ⟨fun z hz => by
   obtain ⟨m, hm, rfl⟩ := List.mem_map.1 hz
   exact qsn h.2 m hm, qso h.2⟩
theorem qsp : ∀ {t : List S1079} {p : Option Int}, (∀ x, p = some x → ∀ y ∈ t, x ≤ y.Moment) → (t.map S1079.Moment).Pairwise (· ≤ ·) → ascM p t
 | [], _, _, _ => trivial
 | y :: t, p, h, hs => by
  rw [List.map_cons, List.pairwise_cons] at hs;exact ⟨fun x hx => h x hx y List.mem_cons_self, qsp (fun x hx z hz => by cases hx; exact hs.1 _ (List.mem_map_of_mem hz)) hs.2⟩
theorem q1q : ∀ (t pre : List S1079), (pre ++ t).length ≤ 30000 → (wz (pre ++ t) t pre.length = some 0 ↔ (∀ m ∈ t, MvOk m) ∧ ascM (pre.getLast?.map S1079.Moment) t)
 | [], pre, _ => by simp [wz, ascM]
 | y :: t, pre, hl => by
  rw [wz];have ih := q1q t (pre ++ [y]) (by simpa using hl)
  have e1 : pre ++ [y] ++ t = pre ++ y :: t := by simp
  have e2 : (pre ++ [y]).length = pre.length + 1 := by simp
  have e3 : (pre ++ [y]).getLast? = some y := by simp
  rw [e1, e2, e3] at ih;have key : ∀ (y5 : S1079) (b : Bool), (b = true ↔ (0 < pre.length ∧ y.Moment < y5.Moment)) → (0 < pre.length → pre.getLast? = some y5) →
    ((bif decide ((vr [(qbl y), (xk b 11)]) ≠ 0) then some (vr [(qbl y), (xk b 11)]) else wz (pre ++ y :: t) t (pre.length + 1)) = some 0 ↔ (∀ m ∈ y :: t, MvOk m) ∧ ascM (pre.getLast?.map S1079.Moment) (y :: t)) := by
   intro y5 b hb hg
   have hz : vr [(qbl y), (xk b 11)] = 0 ↔ MvOk y ∧ b = false := by
    rw [j8];simp only [List.mem_cons, List.not_mem_nil, or_false, forall_eq_or_imp, forall_eq, qq7, xj (e := 11) (by decide)]
   have hasc : (∀ x, pre.getLast?.map S1079.Moment = some x → x ≤ y.Moment) ↔ b = false := by
    by_cases hp : 0 < pre.length
    ·rw [hg hp];simp only [Option.map_some, Option.some.injEq, forall_eq'];rw [← Bool.not_eq_true, hb]
     constructor
     ·intro h k; omega
     ·intro h; have := fun q => h ⟨hp, q⟩; omega
    ·have : pre = [] := by
      cases pre with
      | nil => rfl
      | cons => simp at hp
     subst this;rw [← Bool.not_eq_true, hb]
     simp
   by_cases hc : vr [(qbl y), (xk b 11)] = 0
   ·rw [decide_eq_false (by simpa using hc), cond_false, ih];obtain ⟨c1, c2⟩ := hz.1 hc;simp only [List.mem_cons, forall_eq_or_imp, ascM, hasc, c1, c2, true_and, Option.map_some]
   ·rw [decide_eq_true hc, cond_true]
    constructor
    ·intro h; exact absurd (Option.some.inj h) hc
    ·rintro ⟨h1, h2⟩;exact absurd (hz.2 ⟨h1 y List.mem_cons_self, hasc.1 h2.1⟩) hc
  by_cases hp : 0 < pre.length
  ·have hlen : pre.length ≤ 30000 := by simp at hl; omega
   have e : max 0 (IntKind.i64.wrap (((pre.length : Nat) : Int) - 1)) = ((pre.length - 1 : Nat) : Int) := by
    rw [wrap_i64 (by unfold I64; omega)]; omega
   rw [decide_eq_true (by omega : (0 : Int) < ((pre.length : Nat) : Int)), cond_true, e, qv4 (by simp; omega), List.getElem_append_left (by omega : pre.length - 1 < pre.length)];simp only [zc, Bool.true_and];refine key (pre[pre.length - 1]'(by omega)) _ ?_ (fun _ => ?_)
   ·simp [hp]
   ·rw [List.getLast?_eq_getElem?, List.getElem?_eq_getElem (by omega)]
  ·have e0 : pre.length = 0 := by omega
   rw [decide_eq_false (by omega : ¬ (0 : Int) < ((pre.length : Nat) : Int)), cond_false];simp only [zc, Bool.false_and];exact key default false (by simp; omega) (fun h => absurd h hp)
theorem qgv {l : List S1079} (hl : l.length ≤ 30000) : qap l = some 0 ↔ (∀ m ∈ l, MvOk m) ∧ (l.map S1079.Moment).Pairwise (· ≤ ·) := by
 unfold qap;rw [decide_eq_false (by omega), cond_false];have := q1q l [] (by simpa using hl);rw [show wz l l 0 = wz ([] ++ l) l ([] : List S1079).length from rfl, this]
 constructor
 ·rintro ⟨h1, h2⟩; exact ⟨h1, qso h2⟩
 ·rintro ⟨h1, h2⟩; exact ⟨h1, qsp (fun x hx => by cases hx) h2⟩
theorem zbv {l : List S1079} (hl : l.length ≤ 1000) (h : qap l = some 0) : MsOk l ∧ ∀ m ∈ l, MvOk m := by
 obtain ⟨h1, h2⟩ := (qgv (by omega)).1 h;refine ⟨⟨hl, fun m hm => ?_, h2⟩, h1⟩;have := h1 m hm;refine ⟨?_, ?_⟩
 ·rcases this.k with h | h <;> rw [h] <;> decide
 ·rcases this.t with h | h
  ·rw [h]; decide
  ·have := qv9 h; omega
theorem q64 {g : GL} (a0 : List S2062) (a1 : List S1079) (m : S1079) : Con (EG g) 47 [G.sl 11 (List.map S2062.c a0), G.sl 7 (List.map S1079.c a1), G.agg (S1079.c m)]
  (G.fn (.func 101) [] [G.ref [G.sl 11 (List.map S2062.c a0)], G.ref (S1079.c m), G.ref [G.sl 7 (List.map S1079.c a1)]]) := by
 refine qm Tryz.func47 U U fun w0 M0 => ?_;refine qb<|qa [.p, .p, .p, .p]<|st U U (zi U U) U<|st U U (zi U U) U<|st U U (zi U U) U<|st U U (jb U U) U<|qd<|qb<|qa [.p, .p]<|st U U (qas U U U) U<|st U U (jb U U) U<|qd<|qo ?_;exact za U (rv_g U)
def qgw (a0 : List S2062) (a1 : List S1079) : Option Int :=
 zc (qap a1) fun r1 => some (vr [(qa8 a0), r1])
theorem q31 {g : GL} (a0 : List S2062) (a1 : List S1079) {R : Int}   (hR : qgw a0 a1 = some R) : Con (EG g) 41 [G.sl 11 (List.map S2062.c a0), G.sl 7 (List.map S1079.c a1)] (G.int R) := by
 unfold qgw at hR;refine qm Tryz.func41 U U fun w0 M0 => ?_;refine zu (f := S2062.c) (l := a0) 0 U fun hla0 => ?_;refine zu (f := S1079.c) (l := a1) 1 U fun hla1 => ?_;refine qb<|qa [.p]<|sa U U<|qd<|qb ?_;obtain ⟨r1, br1, hR⟩ := qh hR;refine qa [.p, .p, .p, .p, .p, .p, .p]<|sm U U<|su (qg U q5s U (q65 a0) (qe U qk)) U<|sm U U<|su (qg U q2v U (q32 a1 br1) (qe U qk)) U ?_;refine su (qt U Tryz.underlying170 ty37 z37 U (qx U (qx U jp)) U (by simp []) (by decide)) U ?_;refine su (qg U qjy U (qk0 [(qa8 a0), r1]) (qe U qk)) U<|sa U U<|qd<|qo ?_;obtain rfl := Option.some.inj hR;exact za U (rv_g U)
theorem q33 {a0 : List S2062} {a1 : List S1079} {r : Int} (h : qgw a0 a1 = some r) : ∃ r1, qap a1 = some r1 ∧ r = vr [qa8 a0, r1] := by
 unfold qgw at h
 cases hq : qap a1 with
 | none => rw [hq] at h; cases h
 | some r1 => rw [hq] at h; exact ⟨r1, rfl, (Option.some.inj h).symm⟩
theorem qwb {a0 : List S2062} {a1 : List S1079} {r : Int} (hl : a1.length ≤ 1000) (h : qgw a0 a1 = some r) (h1 : ¬ r ≠ 0) : a0.length ≤ 32 ∧ (∀ x ∈ a0, LimOk x) ∧ MsOk a1 ∧ ∀ m ∈ a1, MvOk m := by
 obtain ⟨r1, h2, rfl⟩ := q33 h;have h3 := j8.1 (Decidable.not_not.1 h1);obtain ⟨h4, h5⟩ := qnq (h3 (qa8 a0) (by simp));have h6 : r1 = 0 := h3 r1 (by simp);subst h6;obtain ⟨h7, h8⟩ := zbv hl h2;exact ⟨h4, h5, h7, h8⟩
theorem qsq {a0 : List S2062} {a1 : List S1079} {a2 : S1079} {r : Int} (hl : a1.length ≤ 1000) (h : qgw a0 a1 = some r) (h1 : ¬ vr [r, qbl a2] ≠ 0) : a0.length ≤ 32 ∧ (∀ x ∈ a0, LimOk x) ∧ MsOk a1 ∧ (∀ m ∈ a1, MvOk m) ∧ MvOk a2 := by
 have h3 := j8.1 (Decidable.not_not.1 h1);have h4 : r = 0 := h3 r (by simp);obtain ⟨h5, h6, h7, h8⟩ := qwb hl h (by rw [h4]; simp);exact ⟨h5, h6, h7, h8, qq7.1 (h3 (qbl a2) (by simp))⟩
def qzq  : List S2068 → Int → Int → Int → Int → Option (S2068 × Int)
 | [], x2, x3, x4, x5 => some ((S2068.mk 0 0 0), 7)
 | y6 :: t7, x2, x3, x4, x5 => some (y6, 0)
def q6n (a0 : List S2062) (a1 : List S1079) : Option (S2068 × Int) :=
 zc (qgw a0 a1) fun r1 => (bif decide (r1 ≠ 0) then some ((S2068.mk 0 0 0), r1) else qzq (exL a1 a0 0) 0 0 0 0)
def qb0 (a0 : List S2062) : List S2068 → Int → Option Int
 | [], x1 => some x1
 | y2 :: t3, x1 => zc (ixO a0 y2.Limit) fun y4 => qb0 a0 t3 (min x1 (max 0 (IntKind.i64.wrap (y4.Most - y2.Count))))
def qzr (a0 : List S2062) (a1 : List S1079) (a2 : S1079) : Option Int :=
 qb0 a0 (arL a1 a2 a0 0) 999999999
theorem zbw {g : GL} (a0 : List S2062) (a1 : List S1079) (a2 : S1079) {R : Int}  (hl0 : a0.length ≤ 1000) (hlim : ∀ x ∈ a0, LimOk x) (hms : MsOk a1) (hm0 : 0 ≤ a2.Moment) (hm1 : a2.Moment ≤ 143999999) (hR : qzr a0 a1 a2 = some R) : Con (EG g) 43 [G.sl 11 (List.map S2062.c a0), G.sl 7 (List.map S1079.c a1), G.agg (S1079.c a2)] (G.int R) := by
 unfold qzr at hR;refine qex Tryz.func43 U U (xr _) fun w0 M0 => ?_;refine zu (f := S2062.c) (l := a0) 0 U fun hla0 => ?_;refine zu (f := S1079.c) (l := a1) 1 U fun hla1 => ?_;refine qb<|qa [.p, .p, .p]<|su (zi U U) U<|su (zi U U) U<|sa U U<|qd<|qb<|qa [.w, .w]<|sw (zm 7 U z3 U U) U<|je U U (qw (tv := .g (G.int 999999999)) U ty3 U U U U U)<|qd<|qb<|qb<|qa [.p, .p, .p, .p]<|su (qf U qow U) U<|sm U U<|su (qr U z7 U U U) U<|su (qg U q5v U (q64 a0 a1 a2) (qe U (qe U (qe U qk)))) U<|qd<|qp ?_;refine qhs (α := S2068) (γ := Int) (enc := winE) (l := [(3, .g (G.ref [G.sl 11 (List.map S2062.c a0)])), (7, .ptr 7 0), (12, .g (G.fn (.func 101) [] [G.ref [G.sl 11 (List.map S2062.c a0)], G.ref (S1079.c a2), G.ref [G.sl 7 (List.map S1079.c a1)]]))]) (arL a1 a2 a0 0) (fun g => [(7, .box [.g (G.int g)])]) (fun tl_ g => qb0 a0 tl_ g = some R) 999999999 (fun g y2 => (upd 8 (.ptr 8 0) (upd 13 (.g (winG y2)) (xh [(3, .g (G.ref [G.sl 11 (List.map S2062.c a0)])), (7, .ptr 7 0), (12, .g (G.fn (.func 101) [] [G.ref [G.sl 11 (List.map S2062.c a0)], G.ref (S1079.c a2), G.ref [G.sl 7 (List.map S1079.c a1)]]))])), (8, .box [.g (G.int y2.Limit), .g (G.int y2.Begin), .g (G.int y2.Count)]) :: (8, .box [.g (G.int 0), .g (G.int 0), .g (G.int 0)]) :: [(7, .box [.g (G.int g)])])) U ⟨U, U, U, O⟩ ⟨U, O⟩ U U q5w (ql7 a0 a1 a2 hl0 hlim hms hm0 hm1) winG q1n (by exact hR) U (fun _ => U) (fun _ => U) ?_ (fun _ _ => U) ?_ ?_
 ·rintro y2 x1 lp_ w1_ M1_ x1_;refine qa [.w, .w]<|sw (zm 8 U qj5 U U) U<|je U U (qw (tv := .g (G.agg (S2068.c y2))) U qak U U U U U)<|qd ?_;exact ⟨U, U⟩
 ·rintro y2 t3 x1 hx1 hR lp_ w1_ M1_ x1_;replace hR : qb0 a0 (y2 :: t3) x1 = some R := hR;rw [qb0] at hR;(try dsimp only at hR);refine qp ?_;obtain ⟨y4, by4, hR⟩ := qh hR;refine zr [.r, .p, .p, .r, .p, .p, .p, .p, .r, .p, .p, .p, .w] (by kernel_rfl)<|sr (zo U ty3 U U U) U<|su (qf U qow U) U<|su (qu U qf4 U) U<|sr (zo U ty3 U U U) U<|su (z5 (f := S2062.c) (l := a0) (a := y4) U Tryz.underlying22 vy U U (jj by4) (zh by4)) U<|su (qc U qf7 U) U<|su (qf U ty3 U) U<|su (qu U qeq U) U<|sr (zo U ty3 U U U) U<|su (kq U U U) U<|su (qhm U U U) U<|su (qq2 U U U) U<|je U U (qw (tv := .g (G.int (min x1 (max 0 (IntKind.i64.wrap (y4.Most - y2.Count)))))) U ty3 U U U U U)<|qd ?_;exact ⟨min x1 (max 0 (IntKind.i64.wrap (y4.Most - y2.Count))), hR, ⟨U, O⟩⟩
 ·rintro x1 hR;replace hR : qb0 a0 [] x1 = some R := hR;rw [qb0] at hR;(try dsimp only at hR);refine qb<|qa [.r, .p]<|sr (zo U ty3 U U U) U<|sa U U<|qd<|qo ?_;obtain rfl := Option.some.inj hR;exact za U (rv_g U)
theorem zbx {g : GL} {gf : FuncId} {caps : List G} (xs : List S2068) (hk : ze Tryz.prog gf) (hseq : SeqN (EG g) gf caps winE xs) (hn : xs.length ≤ 100000000) :
  Con (EG g) 100 [G.lit (.slice none 0 0), G.fn (.func gf) [] caps] (G.sl 3 (xs.map S2068.c)) := by
 refine qex Tryz.func100 U U (qpt fun x => (xu (xr _) (xu (xr _) (xu (xr _) qpv)))) fun w0 M0 => ?_;refine qb<|qa [.w, .p]<|sw (qrw (tv := .g (G.lit (.slice none 0 0))) 2 U U U) U<|sa U U<|qd<|qb<|qb<|qey 2 0 2020 3 60 U U U U<|qa [.p]<|sm U U<|qd<|qp ?_;refine qt4 (α := S2068) (γ := List S2068) (enc := winE) (l := [(2, .ptr 2 0), (6, .g (G.fn (.func gf) [] caps))]) 2020 2 xs (fun g => [(2, .box [.osl 2020 3 0 (List.length g)]), (2020, .arr 60 3 (List.map S2068.c g))]) (fun tl_ g => g ++ tl_ = xs) ([] : List S2068)
  (fun g y => (upd 5 (.ptr 5 0) (upd 7 (.g (winG y)) (xh [(2, .ptr 2 0), (6, .g (G.fn (.func gf) [] caps))])), (5, .box [.g (G.int y.Limit), .g (G.int y.Begin), .g (G.int y.Count)]) :: (5, .box [.g (G.int 0), .g (G.int 0), .g (G.int 0)]) :: [(2, .box [.osl 2020 3 0 (List.length g)]), (2020, .arr 60 3 (List.map S2068.c g))]))
  rfl ⟨rfl, rfl, trivial⟩ ⟨rfl, rfl, trivial⟩ rfl rfl hk hseq winG q1n rfl rfl (fun _ => rfl) (fun _ => rfl) rfl (fun _ => rfl) (fun _ _ => rfl) rfl ?_ (fun _ _ => rfl) ?_ ?_
 ·rintro y x1 lp_ w1_ M1_ x1_;refine qa [.w, .w]<|sw (zm 5 U qj5 U U) U<|je U U (qw (tv := .g (G.agg (S2068.c y))) U qak U U U U U)<|qd ?_;exact ⟨U, U⟩
 ·rintro y t x1 hx1 hR lp_ w1_ M1_ x1_;replace hR : x1 ++ (y :: t) = xs := hR
  have hl : x1.length + (t.length + 1) ≤ 100000000 := by rw [← hR] at hn; simpa using hn
  refine qp<|qa [.r, .r, .p, .k, .w]<|sr (zo U quu U U U) U<|sr (zj U qak U U U U) U ?_;refine su (qt U Tryz.underlying56 qak qj5 U (qx U jp) U (by simp []) (by decide)) U ?_;refine st_k U U (qcj 2 0 U (xb (f := S2068.c) (out := x1) (new := [y]) U qus U U (qa6 U (qa5 (by decide) (by simp [S2068.c]))) (qq5 U) (by simp; omega))) U ?_;refine je U U (qw (tv := .osl 2020 3 0 (List.length (x1 ++ [y]))) U quu U U U U U)<|qd ?_;exact ⟨x1 ++ [y], by rw [← hR]; simp, ⟨rfl, rfl, trivial⟩⟩
 ·rintro x1 hR;replace hR : x1 ++ [] = xs := hR;rw [List.append_nil] at hR;subst hR;refine qb<|qa [.r, .p]<|sr (zo U quu U U U) U<|su (ja U U) U<|qd<|qo ?_;exact za U (qc8 U U)
theorem zby {g : GL} {gf : FuncId} {caps : List G} (xs : List S2068) (hk : ze Tryz.prog gf) (hseq : SeqN (EG g) gf caps winE xs) (hn : xs.length ≤ 100000000) :
  Con (EG g) 46 [G.fn (.func gf) [] caps] (G.sl 3 (xs.map S2068.c)) := by
 refine qm Tryz.func46 U U fun w0 M0 => ?_;refine qb<|qa [.p]<|sa U U<|qd<|qb<|qa [.p, .p, .p]<|sm U U<|su (qg U zaj U (zbx xs hk hseq hn) (qe U (qe U qk))) U<|sa U U<|qd<|qo ?_;exact res1 U U
def qzs (a0 : List Bool) (a1 : Int) : Option Bool :=
 zc (ixO a0 a1) fun y1 => some (!y1)
theorem zbz {g : GL} (a0 : List Bool) (a1 : Int) {R : Bool}  (hlen : a0.length = 1440) (hR : qzs a0 a1 = some R) : Con (EG g) 70 [G.ref (List.map G.bool a0), G.int a1] (G.bool R) := by
 unfold qzs at hR;refine qm Tryz.func70 U U fun w0 M0 => ?_;refine qb<|qa [.p]<|sa U U<|qd<|qb ?_;obtain ⟨y1, by1, hR⟩ := qh hR;refine qa [.p, .p, .p, .p, .p, .p, .p]<|sm U U<|sm U U<|su (qo3 U U) U ?_;refine su (q3z (c := G.bool y1) U Tryz.underlying198 ty4 U U (jj by1) (Nat.lt_of_lt_of_eq (jt (zh by1)) hlen) (by rw [List.getElem?_map, (zh by1)]; rfl)) U ?_;refine su (qf U ty4 U) U<|su (jo U U) U<|sa U U<|qd<|qo ?_;obtain rfl := Option.some.inj hR;exact za U (rv_g U)
def s69 (a0 : S45) : (List Int) × Int :=
 (bif decide ((s102 a0) ≠ 0) then ([], (s102 a0)) else (dayL a0.Days (a0.fTo + 1 - a0.fFrom).toNat a0.fFrom, 0))
theorem c69 {g : GL} (a0 : S45)    : Con (EG g) 127 [G.agg (S45.c a0)] (G.tup [G.slX 1 (List.map cInt ((s69 a0)).1), G.int ((s69 a0)).2]) := by
 generalize hR : s69 a0 = R;unfold s69 at hR;refine qm Tryz.func127 U U fun w0 M0 => ?_;refine qb<|qa [.p, .p, .p]<|su (zi U U) U<|sa U U<|sa U U<|qd<|qb<|qb<|qa [.p, .p, .p]<|su (qr U ty46 U U U) U<|su (qg U K102 U (c102 a0) (qe U qk)) U<|sa U U<|qd<|qb<|qa [.p, .p]<|sm U U<|su (zx U U U) U<|qd ?_;refine ql _ U (fun h1 => ?_) (fun h1 => ?_)
 ·replace h1 : (decide ((s102 a0) ≠ 0)) = true := h1;replace hR := zk hR h1;(try simp only [bB] at h1);refine qb<|qa [.p, .p, .p]<|sm U U<|sa U U<|sa U U<|qd<|qo ?_;subst hR;exact resN U ⟨qnu U (q34 _), rv_g U, O⟩ (by simp)
 ·replace h1 : (decide ((s102 a0) ≠ 0)) = false := h1;replace hR := zl hR h1;(try simp only [bB] at h1);have hp := j7 a0 (by simpa using h1);refine qn<|qb<|qa [.p, .p, .p, .p, .p]<|su (qr U ty46 U U U) U<|su (qg U K136 U (c136 a0.fFrom a0.fTo a0.Days) (qe U qk)) U<|su (qg U K135 U (zb0 a0.fFrom a0.fTo a0.Days hp.1 (by omega)) (qe U (qe U qk))) U<|sa U U<|sa U U<|qd<|qo ?_;subst hR;exact resN U ⟨rv_g U, rv_g U, O⟩ (by simp)
theorem c69' {g : GL} (a0 : S45) : Con (EG g) 127 [G.agg (S45.c a0)] (G.tup [G.sl 1 (List.map cInt ((s69 a0)).1), G.int ((s69 a0)).2]) := by
 intro w M vs hM hgl hv;refine (c69 a0 w M vs hM hgl hv).mono ?_;rintro e w' ⟨v, h1, h2, us, h3, h4⟩;refine ⟨v, h1, h2, us, h3, ?_⟩
 match us, h4 with
 | [u1, u2], ⟨k1, k2, k3⟩ => exact ⟨q66 k1, k2, k3⟩
theorem qfk : ∀ (l : List Int) (k : Nat), wy l k = 0 ↔ ∀ x ∈ l, x = 0
 | [], k => by simp [wy]
 | y :: t, k => by
  rw [wy]
  by_cases h : y = 0
  ·rw [decide_eq_false (by simpa using h), cond_false, qfk t]; simp [h]
  ·rw [decide_eq_true h, cond_true]; simp [h]
theorem qq8 (l : List Int) : vr l = 0 ↔ ∀ x ∈ l, x = 0 := qfk l 0
theorem q1r {a0 : S115} (h : ¬ qcx a0 ≠ 0) : s102 a0.Period = 0 := (qq8 _).1 (Decidable.not_not.1 h) _ (by simp)
theorem qc7 {p : S45} (h : s102 p = 0) : s69 p = (dayL p.Days (p.fTo + 1 - p.fFrom).toNat p.fFrom, 0) := by unfold s69; rw [h]; rfl
theorem qog {p : S45} (h : s102 p = 0) : ((s69 p).1).length ≤ 401 := by
 rw [qc7 h];obtain ⟨q1, q2, q3, q4, q5, q6⟩ := j7 p h;have := qgx p.Days (p.fTo + 1 - p.fFrom).toNat p.fFrom;show (dayL p.Days (p.fTo + 1 - p.fFrom).toNat p.fFrom).length ≤ 401
 omega
def qb1 (a0 : S115) : List Int → Nat → (List S1079) → List S1079
 | [], k3, x1 => x1
 | y4 :: t5, k3, x1 => qb1 a0 t5 (k3 + 1) (x1 ++ [(S1079.mk (IntKind.i64.wrap ((IntKind.i64.wrap (1440 * y4)) + a0.Minute)) a0.Kind a0.Terminal a0.Seats a0.Size a0.Noise a0.Name)])
def qt5 (a0 : S115) : List S1079 :=
 qb1 a0 ((s69 a0.Period).1) 0 []
set_option maxHeartbeats 4000000 in
theorem zb1 {g : GL} (a0 : S115)  (hp : s102 a0.Period = 0)  : Con (EG g) 147 [G.agg (S115.c a0)] (G.sl 7 (List.map S1079.c (qt5 a0))) := by
 generalize hR : qt5 a0 = R;unfold qt5 at hR;refine qm Tryz.func147 U U fun w0 M0 => ?_;have hl := qog hp;refine qb<|qa [.p, .w]<|su (zi U U) U<|sw (xa 2 53 7 U U U) U<|qd<|qb<|qa [.p, .p, .p, .p, .p, .p, .p, .p]<|su (qc U vt U) U<|su (qr U ty46 U U U) U<|su (qg U K69 U (c69' a0.Period) (qe U qk)) U<|sm U U<|su (qv U U U) U<|su (qv U U U) U<|sa U U<|sa U U<|qd<|qb<|qa [.w]<|sw (xa 5 53 7 U U U) U<|qd<|qb<|qb<|qa [.p, .p, .p]<|sm U U<|su (zb (f := cInt) (l := (s69 a0.Period).1) U Tryz.underlying38 U) U<|sm U U<|qd<|qp<|zf (γ := Nat × (List Int) × (List S1079)) (fun g => ([(1, .g (G.ref (S115.c a0))), (5, .osl 5 7 0 (List.length g.2.2)), (14, .g (G.sl 1 (List.map cInt ((s69 a0.Period).1)))), (15, .g (G.int (List.length ((s69 a0.Period).1) : Int))), (16, .g (G.int ((g.1 : Nat) : Int)))], [(5, .arr 53 7 (List.map S1079.c g.2.2))])) (fun g => g.2.2.length ≤ g.1 ∧ g.1 ≤ ((s69 a0.Period).1).length ∧ g.2.2.length ≤ g.1 ∧ ((s69 a0.Period).1).drop g.1 = g.2.1 ∧ qb1 a0 g.2.1 g.1 g.2.2 = R) (fun g => List.length g.2.1) ⟨U, (0, ((s69 a0.Period).1), []), jA, ⟨U, O⟩, U, ⟨iH, iH, iH, U, (by exact hR)⟩, O⟩ ?_
 ·rintro ⟨k3, t5, x1⟩ ⟨iv1_0, iv1_1, iv1_2, hd, hR⟩;replace hd : ((s69 a0.Period).1).drop k3 = t5 := hd;replace hR : qb1 a0 t5 k3 x1 = R := hR;replace iv1_0 : x1.length ≤ k3 := iv1_0;replace iv1_1 : k3 ≤ ((s69 a0.Period).1).length := iv1_1;replace iv1_2 : x1.length ≤ k3 := iv1_2;refine qb<|qa [.p]<|su (zd U U U) U<|qd ?_;refine zu (f := cInt) (l := (s69 a0.Period).1) 14 U fun hlz1 => ?_;refine qb ?_;refine ql _ U (fun h1 => ?_) (fun h1 => ?_)
  ·replace h1 : (decide (((k3 : Nat) : Int) < (List.length ((s69 a0.Period).1) : Int))) = true := h1;obtain ⟨y4, t5, rfl, hx1, hd⟩ := zq hd (decT h1);replace h1 := decT h1;rw [qb1] at hR;(try dsimp only at hR);refine qn<|qb<|qp<|qb<|qa [.p, .p, .p]<|su (z5 (f := cInt) (l := (s69 a0.Period).1) (a := y4) U Tryz.underlying38 ty3 U U (Int.natCast_nonneg _) hx1) U<|su (qf U ty3 U) U<|sa U U<|qd<|qa [.p, .p, .p, .p, .p, .p, .p, .p, .p, .p, .p, .p, .p, .p, .p, .p, .p, .p, .p, .p, .k, .p]<|su (zg U U) U<|sm U U<|su (qc4 U U U) U<|su (qc U qha U) U<|su (qf U ty3 U) U<|su (kl U U U) U<|su (qc U qd3 U) U<|su (qf U ty9 U) U<|su (qc U qfn U) U<|su (qf U ty9 U) U<|su (qc U qj1 U) U<|su (qf U ty3 U) U<|su (qc U qj2 U) U<|su (qf U ty3 U) U<|su (qc U qf3 U) U<|su (qf U ty3 U) U<|su (qc U kh U) U<|su (qf U ty9 U) U<|su (jk U qlj U qrs (zp U (zp U (zp U (zp U (zp U (zp U (zp U kx))))))) U) U ?_;refine su (qt U Tryz.underlying48 z7 qlj U (qx U jp) U (by exact lens rfl) (by decide)) U ?_;refine st_k U U (xb (f := S1079.c) (out := x1) (new := [(S1079.mk (IntKind.i64.wrap ((IntKind.i64.wrap (1440 * y4)) + a0.Minute)) a0.Kind a0.Terminal a0.Seats a0.Size a0.Noise a0.Name)]) U qm5 U U (qa6 U (qa5 (by decide) (by simp [S1079.c]))) (qkq U) (by simp; omega)) U ?_;refine su (ja U U) U<|qd<|qa [.p, .p]<|su (zn U U U iE) U<|sm U U<|qd ?_;exact ⟨U, (k3 + 1, t5, x1 ++ [(S1079.mk (IntKind.i64.wrap ((IntKind.i64.wrap (1440 * y4)) + a0.Minute)) a0.Kind a0.Terminal a0.Seats a0.Size a0.Noise a0.Name)]), jA, ⟨U, O⟩, U, ⟨iB, iB, iB, hd, hR⟩, by simp⟩
  ·replace h1 : (decide (((k3 : Nat) : Int) < (List.length ((s69 a0.Period).1) : Int))) = false := h1;obtain rfl := zz hd (decF h1);rw [qb1] at hR;refine zw<|qb<|qa [.p, .p]<|su (zg U U) U<|su (ja U U) U<|qd<|qo ?_;subst hR;exact za U (qc8 U U)
def qlo (a0 : S115) : (List S1079) × Int :=
 (bif decide ((qcx a0) ≠ 0) then ([], (qcx a0)) else ((qt5 a0), 0))
theorem zb2 {g : GL} (a0 : S115)    : Con (EG g) 93 [G.agg (S115.c a0)] (G.tup [G.sl 7 (List.map S1079.c ((qlo a0).1)), G.int ((qlo a0).2)]) := by
 generalize hR : qlo a0 = R;unfold qlo at hR;refine qm Tryz.func93 U U fun w0 M0 => ?_;refine qb<|qa [.p, .p, .p]<|su (zi U U) U<|sa U U<|sa U U<|qd<|qb<|qb<|qa [.p, .p, .p]<|su (qr U qab U U U) U<|su (qg U q5p U (q67 a0) (qe U qk)) U<|sa U U<|qd<|qb<|qa [.p, .p]<|sm U U<|su (zx U U U) U<|qd ?_;refine ql _ U (fun h1 => ?_) (fun h1 => ?_)
 ·replace h1 : (decide ((qcx a0) ≠ 0)) = true := h1;replace hR := zk hR h1;(try simp only [bB] at h1);refine qb<|qa [.p, .p, .p]<|sm U U<|sa U U<|sa U U<|qd<|qo ?_;subst hR;exact resN U ⟨qnu U (qki _), rv_g U, O⟩ (by simp)
 ·replace h1 : (decide ((qcx a0) ≠ 0)) = false := h1;replace hR := zl hR h1;(try simp only [bB] at h1);have hp := q1r h1;refine qn<|qb<|qa [.p, .p, .p, .p]<|su (qr rfl qab rfl rfl rfl) rfl<|su (qg rfl q83 rfl (zb1 a0 (by first | assumption | omega | (simp [qi]; done) | (simp [qi]; omega))) (qe rfl qk)) rfl<|sa rfl rfl<|sa rfl rfl<|qd<|qo ?_;subst hR;exact resN U ⟨rv_g U, rv_g U, O⟩ (by simp)
theorem q68 {a : S2062} (h : LimOk a) {d b : Int} {t : List Int} (hx : ∃ pre, begL a d = pre ++ b :: t) : a.Period.fFrom ≤ d ∧ d ≤ a.Period.fTo ∧ 1440 * d ≤ b ∧ b ≤ 1440 * d + 1439 := by
 obtain ⟨pre, hq⟩ := hx;exact qn9 h (by rw [hq]; simp)
theorem qzt : vq Tryz.prog 195 = some (List.replicate 1441 (.int .i64 0)) := by kernel_rfl
theorem qzu : vq Tryz.prog 198 = some (List.replicate 1440 (.bool false)) := by kernel_rfl
def qat (x2 : List Int) : Nat → Int → Int → (List Bool) → Option (List Bool)
 | 0, x7, x8, x9 => some x9
 | k12 + 1, x7, x8, x9 => zc (ixO x2 x8) fun y13 => zc (ixO x9 x8) fun y14 => qat x2 k12 (IntKind.i64.wrap (x7 + y13)) (x8 + 1) (List.set x9 (Int.toNat x8) (decide (0 < IntKind.i64.wrap (x7 + y13))))
def qez (rec1 : Nat → (List Int) → Option (List Bool)) (k4 : Nat) (x15 : List Int) : Option (List Bool) :=
 rec1 (k4 + 1) x15
def qbh (rec5 : Int → Int → Int → (List Int) → Option (List Bool)) (y5 : S2062) (y24 : Int) (x38 : List Int) (y40 : Int) (x42 : Int) (x43 : Int) (x44 : Int) (x45 : Int) : Option (List Bool) :=
 (bif decide (x42 < y5.Most) then rec5 x43 x44 x45 x38 else (bif decide (max 0 (IntKind.i64.wrap (y40 - (IntKind.i64.wrap (1440 * y24)))) < min 1440 (IntKind.i64.wrap ((IntKind.i64.wrap (y40 + y5.Length)) - (IntKind.i64.wrap (1440 * y24))))) then zc (ixO x38 (max 0 (IntKind.i64.wrap (y40 - (IntKind.i64.wrap (1440 * y24)))))) fun y46 => zc (ixO x38 (max 0 (IntKind.i64.wrap (y40 - (IntKind.i64.wrap (1440 * y24)))))) fun y47 => zc (ixO (List.set x38 (Int.toNat (max 0 (IntKind.i64.wrap (y40 - (IntKind.i64.wrap (1440 * y24)))))) (IntKind.i64.wrap (y46 + 1))) (min 1440 (IntKind.i64.wrap ((IntKind.i64.wrap (y40 + y5.Length)) - (IntKind.i64.wrap (1440 * y24)))))) fun y48 => zc (ixO (List.set x38 (Int.toNat (max 0 (IntKind.i64.wrap (y40 - (IntKind.i64.wrap (1440 * y24)))))) (IntKind.i64.wrap (y46 + 1))) (min 1440 (IntKind.i64.wrap ((IntKind.i64.wrap (y40 + y5.Length)) - (IntKind.i64.wrap (1440 * y24)))))) fun y49 => rec5 x43 x44 x45 (List.set (List.set x38 (Int.toNat (max 0 (IntKind.i64.wrap (y40 - (IntKind.i64.wrap (1440 * y24)))))) (IntKind.i64.wrap (y46 + 1))) (Int.toNat (min 1440 (IntKind.i64.wrap ((IntKind.i64.wrap (y40 + y5.Length)) - (IntKind.i64.wrap (1440 * y24)))))) (IntKind.i64.wrap (y48 - 1))) else rec5 x43 x44 x45 x38))
def vo (rec4 : Int → Int → Int → Int → (List Int) → Option (List Bool)) (a1 : List S1079) (y5 : S2062) (y24 : Int) (x26 : Int) : List Int → Int → Int → Int → (List Int) → Option (List Bool)
 | [], x35, x36, x37, x38 => rec4 (x26 + 1) x35 x36 x37 x38
 | y40 :: t41, x35, x36, x37, x38 => (bif !(qit [decide (x35 = 0), decide (x36 = y40), decide (x37 = x37)]) then qbh (fun z0_ z1_ z2_ z3_ => vo rec4 a1 y5 y24 x26 t41 z0_ z1_ z2_ z3_) y5 y24 x38 y40 (cntI (ofL y5 a1) y40 y5.Length) 0 y40 (cntI (ofL y5 a1) y40 y5.Length) else qbh (fun z0_ z1_ z2_ z3_ => vo rec4 a1 y5 y24 x26 t41 z0_ z1_ z2_ z3_) y5 y24 x38 y40 x37 x35 x36 x37)
def ky (rec3 : Nat → Int → Int → Int → (List Int) → Option (List Bool)) (a1 : List S1079) (y5 : S2062) (k23 : Nat) (y24 : Int) : Nat → Int → Int → Int → Int → (List Int) → Option (List Bool)
 | 0, x26, x27, x28, x29, x30 => rec3 (k23 + 1) x27 x28 x29 x30
 | k33 + 1, x26, x27, x28, x29, x30 => zc (ixO [IntKind.i64.wrap (y24 - 1), y24] x26) fun y34 => vo (fun z0_ z1_ z2_ z3_ z4_ => ky rec3 a1 y5 k23 y24 k33 z0_ z1_ z2_ z3_ z4_) a1 y5 y24 x26 (begL y5 y34) x27 x28 x29 x30
def ve (rec1 : Nat → (List Int) → Option (List Bool)) (a1 : List S1079) (k4 : Nat) (y5 : S2062) : List Int → Nat → Int → Int → Int → (List Int) → Option (List Bool)
 | [], k23, x18, x19, x20, x21 => qez rec1 k4 x21
 | y24 :: t25, k23, x18, x19, x20, x21 => ky (fun k_ z0_ z1_ z2_ z3_ => ve rec1 a1 k4 y5 t25 k_ z0_ z1_ z2_ z3_) a1 y5 k23 y24 (((2 : Int) - 0).toNat) 0 x18 x19 x20 x21
def jz (a1 : List S1079) (a2 : S115) : List S2062 → Nat → (List Int) → Option (List Bool)
 | [], k4, x2 => qat x2 (((1440 : Int) - 0).toNat) 0 0 (List.replicate 1440 false)
 | y5 :: t6, k4, x2 => (bif !(qag y5 a2.Kind a2.Terminal) then qez (fun k_ z0_ => jz a1 a2 t6 k_ z0_) k4 x2 else ve (fun k_ z0_ => jz a1 a2 t6 k_ z0_) a1 k4 y5 ((s69 a2.Period).1) 0 0 (-1) 0 x2)
def qt6 (a0 : List S2062) (a1 : List S1079) (a2 : S115) : Option (List Bool) :=
 jz a1 a2 a0 0 (List.replicate 1441 0)
set_option maxHeartbeats 16000000 in
theorem zb3 {g : GL} (a0 : List S2062) (a1 : List S1079) (a2 : S115) {R : List Bool}  (hl0 : a0.length ≤ 1000) (hlim : ∀ x ∈ a0, LimOk x) (hms : MsOk a1) (hp : s102 a2.Period = 0) (hR : qt6 a0 a1 a2 = some R) : Con (EG g) 69 [G.sl 11 (List.map S2062.c a0), G.sl 7 (List.map S1079.c a1), G.agg (S115.c a2)] (G.ref (List.map G.bool R)) := by
 unfold qt6 at hR;refine qex Tryz.func69 U U (qt3 _) fun w0 M0 => ?_;refine zu (f := S2062.c) (l := a0) 0 U fun hla0 => ?_;refine zu (f := S1079.c) (l := a1) 1 U fun hla1 => ?_;refine qb<|qa [.p, .p]<|su (zi U U) U<|sa U U<|qd<|qb<|qa [.w] ?_;refine sw (qma (f := cInt) (a := 0) 7 U qzt U (by decide) U U) U ?_;refine qd<|qb<|qa [.p, .p, .p, .p, .p, .p, .p, .p]<|su (qc U vt U) U<|su (qr U ty46 U U U) U<|su (qg U K69 U (c69' a2.Period) (qe U qk)) U<|sm U U<|su (qv U U U) U<|su (qv U U U) U<|sa U U<|sa U U<|qd<|qb<|qb<|qa [.p, .p, .p]<|sm U U<|su (zb (f := S2062.c) (l := a0) U Tryz.underlying22 U) U<|sm U U<|qd<|qp<|zf (γ := Nat × (List S2062) × (List Int)) (fun g => ([(1, .g (G.sl 7 (List.map S1079.c a1))), (5, .g (G.ref (S115.c a2))), (7, .eptr 7 1 0 0), (8, .g (G.sl 1 (List.map cInt ((s69 a2.Period).1)))), (31, .g (G.sl 11 (List.map S2062.c a0))), (32, .g (G.int (List.length a0 : Int))), (33, .g (G.int ((g.1 : Nat) : Int)))], [(7, .arr 195 1 (List.map cInt g.2.2))])) (fun g => List.length g.2.2 = 1441 ∧ a0.drop g.1 = g.2.1 ∧ jz a1 a2 g.2.1 g.1 g.2.2 = some R) (fun g => List.length g.2.1) ⟨U, (0, a0, List.replicate 1441 0), jA, ⟨U, O⟩, U, ⟨List.length_replicate, U, (by exact hR)⟩, O⟩ ?_
 ·rintro ⟨k4, u6, x2⟩ ⟨ln3, hd, hR⟩;replace hd : a0.drop k4 = u6 := hd;replace hR : jz a1 a2 u6 k4 x2 = some R := hR;replace ln3 : List.length x2 = 1441 := ln3;refine qb<|qa [.p]<|su (zd U U U) U<|qd ?_;refine zu (f := S2062.c) (l := a0) 31 U fun hlz1 => ?_;refine qb ?_;refine ql _ U (fun h1 => ?_) (fun h1 => ?_)
  ·replace h1 : (decide (((k4 : Nat) : Int) < (List.length a0 : Int))) = true := h1;refine Exists.elim (zq hd (decT h1)) (fun y5 hq_ => ?_);refine Exists.elim hq_ (fun t6 hqq_ => ?_);have et6 := hqq_.1;have hx1 := hqq_.2.1;replace hd := hqq_.2.2;clear hqq_ hq_;rw [et6] at hR;replace h1 := decT h1;rw [jz] at hR;(try dsimp only at hR);refine qn ?_;refine ko (γ := (List Int)) (fun g => ([(1, .g (G.sl 7 (List.map S1079.c a1))), (5, .g (G.ref (S115.c a2))), (7, .eptr 7 1 0 0), (8, .g (G.sl 1 (List.map cInt ((s69 a2.Period).1)))), (31, .g (G.sl 11 (List.map S2062.c a0))), (32, .g (G.int (List.length a0 : Int))), (33, .g (G.int ((k4 : Nat) : Int)))], [(7, .arr 195 1 (List.map cInt g))])) (fun g => List.length g = 1441 ∧ qez (fun k_ z0_ => jz a1 a2 t6 k_ z0_) k4 g = some R) ?_ ?_
   ·refine qp<|qb<|qa [.p, .p, .w, .w]<|su (z5 (f := S2062.c) (l := a0) (a := y5) U Tryz.underlying22 vy U U (Int.natCast_nonneg _) hx1) U<|su (qr U vy U U U) U<|sw (zm 11 U quv U U) U<|je U U (qw (tv := .g (G.agg (S2062.c y5))) U vy U U U U U)<|qd ?_;have hlok := hlim _ (List.mem_of_getElem? hx1);refine qb<|qb<|qa [.r, .p, .p, .p, .p, .p, .p]<|sr (zj U vy U U U U) U<|su (qc U qd3 U) U<|su (qf U ty9 U) U<|su (qc U qfn U) U<|su (qf U ty9 U) U<|su (qg U q2y U (q3u y5 a2.Kind a2.Terminal hlok.k) (qe U (qe U (qe U qk)))) U<|su (jo U U) U<|qd ?_;refine ql _ U (fun h5 => ?_) (fun h5 => ?_)
    ·replace hR := zk hR h5;refine zw ?_;exact ⟨U, x2, jA, ⟨U, O⟩, U, ⟨ln3, hR⟩, O⟩
    ·replace h5 : (!(qag y5 a2.Kind a2.Terminal)) = false := h5;replace hR := zl hR h5;(try simp only [bB] at h5);refine qn<|qb<|qa [.r, .p, .p, .w, .w]<|sr (zj U vy U U U U) U<|sm U U<|su (qg U q86 U (q6s y5 a1 hlok.k hms.sz hms.len) (qe U (qe U qk))) U<|sw (zm 12 U za5 U U) U<|je U U (qw (tv := .g (G.sl 1 (List.map cInt (ofL y5 a1)))) U q1b U U U U U)<|qd<|qb<|qa [.p, .w, .w]<|su (jk U qj5 U q1a (zp U kx) U) U<|sw (zm 13 U qj5 U U) U<|je U U (qw (tv := .g (G.agg [G.int 0, G.int (-1), G.int 0])) U qak U U U U U)<|qd<|qb<|qa [.p, .p, .p]<|sm U U<|su (zb (f := cInt) (l := (s69 a2.Period).1) U Tryz.underlying38 U) U<|sm U U<|qd<|qp<|zf (γ := Nat × (List Int) × Int × Int × Int × (List Int)) (fun g => ([(1, .g (G.sl 7 (List.map S1079.c a1))), (5, .g (G.ref (S115.c a2))), (7, .eptr 7 1 0 0), (8, .g (G.sl 1 (List.map cInt ((s69 a2.Period).1)))), (11, .ptr 11 0), (12, .ptr 12 0), (13, .ptr 13 0), (31, .g (G.sl 11 (List.map S2062.c a0))), (32, .g (G.int (List.length a0 : Int))), (33, .g (G.int ((k4 : Nat) : Int))), (48, .g (G.sl 1 (List.map cInt ((s69 a2.Period).1)))), (49, .g (G.int (List.length ((s69 a2.Period).1) : Int))), (50, .g (G.int ((g.1 : Nat) : Int)))], [(7, .arr 195 1 (List.map cInt g.2.2.2.2.2)), (11, .box [.g (G.str y5.Name), .g (G.str y5.Kind), .g (G.str y5.Terminal), .g (G.int y5.Length), .g (G.int y5.Step), .g (G.int y5.fFrom), .g (G.int y5.fTo), .g (G.int y5.Period.fFrom), .g (G.int y5.Period.fTo), .g (G.int y5.Period.Days), .g (G.int y5.Most)]), (12, .box [.g (G.sl 1 (List.map cInt (ofL y5 a1)))]), (13, .box [.g (G.int g.2.2.1), .g (G.int g.2.2.2.1), .g (G.int g.2.2.2.2.1)])])) (fun g => List.length g.2.2.2.2.2 = 1441 ∧ ((s69 a2.Period).1).drop g.1 = g.2.1 ∧ ve (fun k_ z0_ => jz a1 a2 t6 k_ z0_) a1 k4 y5 g.2.1 g.1 g.2.2.1 g.2.2.2.1 g.2.2.2.2.1 g.2.2.2.2.2 = some R) (fun g => List.length g.2.1) ⟨U, (0, ((s69 a2.Period).1), 0, (-1), 0, x2), jA, jA, U, ⟨ln3, U, (by exact hR)⟩, O⟩ ?_
     ·rintro ⟨k23, u25, x18, x19, x20, x21⟩ ⟨ln22, hd, hR⟩;replace hd : ((s69 a2.Period).1).drop k23 = u25 := hd;replace hR : ve (fun k_ z0_ => jz a1 a2 t6 k_ z0_) a1 k4 y5 u25 k23 x18 x19 x20 x21 = some R := hR;replace ln22 : List.length x21 = 1441 := ln22;refine qb<|qa [.p]<|su (zd U U U) U<|qd ?_;refine zu (f := cInt) (l := (s69 a2.Period).1) 8 U fun hlz3 => ?_;refine qb ?_;refine ql _ U (fun h6 => ?_) (fun h6 => ?_)
      ·replace h6 : (decide (((k23 : Nat) : Int) < (List.length ((s69 a2.Period).1) : Int))) = true := h6;refine Exists.elim (zq hd (decT h6)) (fun y24 hq_ => ?_);refine Exists.elim hq_ (fun t25 hqq_ => ?_);have et25 := hqq_.1;have hx3 := hqq_.2.1;replace hd := hqq_.2.2;clear hqq_ hq_;rw [et25] at hR;replace h6 := decT h6;rw [ve] at hR;(try dsimp only at hR);refine qn<|qb<|qp<|qb<|qa [.p, .p, .w, .w]<|su (z5 (f := cInt) (l := (s69 a2.Period).1) (a := y24) U Tryz.underlying38 ty3 U U (Int.natCast_nonneg _) hx3) U<|su (qf U ty3 U) U<|sw (zm 15 U z3 U U) U<|je U U (qw (tv := .g (G.int y24)) U ty3 U U U U U)<|qd<|qb<|qa [.r, .p, .r, .p, .p]<|sr (zo U ty3 U U U) U<|su (kq U U U) U<|sr (zo U ty3 U U U) U<|su (qci U za7 U Tryz.underlying174 ty3 (zp U (zp U kx)) U) U<|sm U U<|qd<|qp<|zf (γ := Nat × Int × Int × Int × Int × (List Int)) (fun g => ([(1, .g (G.sl 7 (List.map S1079.c a1))), (5, .g (G.ref (S115.c a2))), (7, .eptr 7 1 0 0), (8, .g (G.sl 1 (List.map cInt ((s69 a2.Period).1)))), (11, .ptr 11 0), (12, .ptr 12 0), (13, .ptr 13 0), (15, .ptr 15 0), (31, .g (G.sl 11 (List.map S2062.c a0))), (32, .g (G.int (List.length a0 : Int))), (33, .g (G.int ((k4 : Nat) : Int))), (48, .g (G.sl 1 (List.map cInt ((s69 a2.Period).1)))), (49, .g (G.int (List.length ((s69 a2.Period).1) : Int))), (50, .g (G.int ((k23 : Nat) : Int))), (57, .g (G.agg [G.int (IntKind.i64.wrap (y24 - 1)), G.int y24])), (58, .g (G.int g.2.1))], [(7, .arr 195 1 (List.map cInt g.2.2.2.2.2)), (11, .box [.g (G.str y5.Name), .g (G.str y5.Kind), .g (G.str y5.Terminal), .g (G.int y5.Length), .g (G.int y5.Step), .g (G.int y5.fFrom), .g (G.int y5.fTo), .g (G.int y5.Period.fFrom), .g (G.int y5.Period.fTo), .g (G.int y5.Period.Days), .g (G.int y5.Most)]), (12, .box [.g (G.sl 1 (List.map cInt (ofL y5 a1)))]), (13, .box [.g (G.int g.2.2.1), .g (G.int g.2.2.2.1), .g (G.int g.2.2.2.2.1)]), (15, .box [.g (G.int y24)])])) (fun g => g.1 = ((2 : Int) - g.2.1).toNat ∧ 0 ≤ g.2.1 ∧ List.length g.2.2.2.2.2 = 1441 ∧ ky (fun k_ z0_ z1_ z2_ z3_ => ve (fun k_ z0_ => jz a1 a2 t6 k_ z0_) a1 k4 y5 t25 k_ z0_ z1_ z2_ z3_) a1 y5 k23 y24 g.1 g.2.1 g.2.2.1 g.2.2.2.1 g.2.2.2.2.1 g.2.2.2.2.2 = some R) (fun g => g.1) ⟨U, (((2 : Int) - 0).toNat, 0, x18, x19, x20, x21), jA, jA, U, ⟨U, iD, ln22, (by exact hR)⟩, O⟩ ?_
       ·rintro ⟨k33, x26, x27, x28, x29, x30⟩ ⟨hk4, iv4_0, ln31, hR⟩;replace hk4 : k33 = ((2 : Int) - x26).toNat := hk4;replace hR : ky (fun k_ z0_ z1_ z2_ z3_ => ve (fun k_ z0_ => jz a1 a2 t6 k_ z0_) a1 k4 y5 t25 k_ z0_ z1_ z2_ z3_) a1 y5 k23 y24 k33 x26 x27 x28 x29 x30 = some R := hR;replace iv4_0 : 0 ≤ x26 := iv4_0;replace ln31 : List.length x30 = 1441 := ln31;refine qb<|qa [.p]<|su (zd U U U) U<|qd<|qb ?_;refine ql _ U (fun h8 => ?_) (fun h8 => ?_)
        ·replace h8 : (decide (x26 < 2)) = true := h8;replace h8 := decT h8;obtain ⟨k33, hkq_⟩ : ∃ m, k33 = m + 1 := ⟨k33 - 1, by omega⟩;rw [hkq_] at hR;rw [ky] at hR;(try dsimp only at hR);refine qn<|qb<|qp<|qb ?_;obtain ⟨y34, by34, hR⟩ := qh hR;refine qa [.p, .p]<|su (qv6 (c := G.int y34) U Tryz.underlying174 ty3 U U (jj by34) (q30 by34) (q61 by34)) U<|sa U U<|qd<|qb<|qa [.r, .p, .p]<|sr (zj U vy U U U U) U<|sm U U<|su (qg U q85 U (q6w y5 y34) (qe U (qe U qk))) U<|qd<|qp ?_;refine qhs (α := Int) (γ := Int × Int × Int × (List Int)) (enc := (Value.int .i64)) (l := [(1, .g (G.sl 7 (List.map S1079.c a1))), (5, .g (G.ref (S115.c a2))), (7, .eptr 7 1 0 0), (8, .g (G.sl 1 (List.map cInt ((s69 a2.Period).1)))), (11, .ptr 11 0), (12, .ptr 12 0), (13, .ptr 13 0), (15, .ptr 15 0), (31, .g (G.sl 11 (List.map S2062.c a0))), (32, .g (G.int (List.length a0 : Int))), (33, .g (G.int ((k4 : Nat) : Int))), (48, .g (G.sl 1 (List.map cInt ((s69 a2.Period).1)))), (49, .g (G.int (List.length ((s69 a2.Period).1) : Int))), (50, .g (G.int ((k23 : Nat) : Int))), (57, .g (G.agg [G.int (IntKind.i64.wrap (y24 - 1)), G.int y24])), (58, .g (G.int x26)), (63, .g (G.fn (.func 122) [] [G.ref [G.int y34], G.ref (S2062.c y5)]))]) (begL y5 y34) (fun g => [(7, .arr 195 1 (List.map cInt g.2.2.2)), (11, .box [.g (G.str y5.Name), .g (G.str y5.Kind), .g (G.str y5.Terminal), .g (G.int y5.Length), .g (G.int y5.Step), .g (G.int y5.fFrom), .g (G.int y5.fTo), .g (G.int y5.Period.fFrom), .g (G.int y5.Period.fTo), .g (G.int y5.Period.Days), .g (G.int y5.Most)]), (12, .box [.g (G.sl 1 (List.map cInt (ofL y5 a1)))]), (13, .box [.g (G.int g.1), .g (G.int g.2.1), .g (G.int g.2.2.1)]), (15, .box [.g (G.int y24)])]) (fun tl_ g => vo (fun z0_ z1_ z2_ z3_ z4_ => ky (fun k_ z0_ z1_ z2_ z3_ => ve (fun k_ z0_ => jz a1 a2 t6 k_ z0_) a1 k4 y5 t25 k_ z0_ z1_ z2_ z3_) a1 y5 k23 y24 k33 z0_ z1_ z2_ z3_ z4_) a1 y5 y24 x26 tl_ g.1 g.2.1 g.2.2.1 g.2.2.2 = some R ∧ List.length g.2.2.2 = 1441) (x27, x28, x29, x30) (fun g y40 => (upd 18 (.g (G.int y40)) (upd 64 (.g (G.int y40)) (xh [(1, .g (G.sl 7 (List.map S1079.c a1))), (5, .g (G.ref (S115.c a2))), (7, .eptr 7 1 0 0), (8, .g (G.sl 1 (List.map cInt ((s69 a2.Period).1)))), (11, .ptr 11 0), (12, .ptr 12 0), (13, .ptr 13 0), (15, .ptr 15 0), (31, .g (G.sl 11 (List.map S2062.c a0))), (32, .g (G.int (List.length a0 : Int))), (33, .g (G.int ((k4 : Nat) : Int))), (48, .g (G.sl 1 (List.map cInt ((s69 a2.Period).1)))), (49, .g (G.int (List.length ((s69 a2.Period).1) : Int))), (50, .g (G.int ((k23 : Nat) : Int))), (57, .g (G.agg [G.int (IntKind.i64.wrap (y24 - 1)), G.int y24])), (58, .g (G.int x26)), (63, .g (G.fn (.func 122) [] [G.ref [G.int y34], G.ref (S2062.c y5)]))])), [(7, .arr 195 1 (List.map cInt g.2.2.2)), (11, .box [.g (G.str y5.Name), .g (G.str y5.Kind), .g (G.str y5.Terminal), .g (G.int y5.Length), .g (G.int y5.Step), .g (G.int y5.fFrom), .g (G.int y5.fTo), .g (G.int y5.Period.fFrom), .g (G.int y5.Period.fTo), .g (G.int y5.Period.Days), .g (G.int y5.Most)]), (12, .box [.g (G.sl 1 (List.map cInt (ofL y5 a1)))]), (13, .box [.g (G.int g.1), .g (G.int g.2.1), .g (G.int g.2.2.1)]), (15, .box [.g (G.int y24)])])) U jA jA U U q9a (ql8 _ _ (by have := hlok.s0; omega)) G.int (fun _ _ _ => U) (by exact ⟨hR, ln31⟩) U (fun _ => U) (fun _ => U) ?_ (fun _ _ => U) ?_ ?_
         ·rintro y40 ⟨x35, x36, x37, x38⟩ lp_ w1_ M1_ x1_;refine qa [.p]<|sa U U<|qd ?_;exact ⟨U, U⟩
         ·rintro y40 t41 ⟨x35, x36, x37, x38⟩ hx5 ⟨hR, ln39⟩ lp_ w1_ M1_ x1_;replace hR : vo (fun z0_ z1_ z2_ z3_ z4_ => ky (fun k_ z0_ z1_ z2_ z3_ => ve (fun k_ z0_ => jz a1 a2 t6 k_ z0_) a1 k4 y5 t25 k_ z0_ z1_ z2_ z3_) a1 y5 k23 y24 k33 z0_ z1_ z2_ z3_ z4_) a1 y5 y24 x26 (y40 :: t41) x35 x36 x37 x38 = some R := hR;rw [vo] at hR;(try dsimp only at hR);have hbr := q68 hlok hx5;have hq0 := hlok.p0;have hq1 := hlok.p1;refine qp<|qb<|qa [.p, .p, .r, .p, .w, .w]<|sm U U<|su (qu U qeq U) U<|sr (zo U ty3 U U U) U<|su (jk U qj5 U q1a (zp U (zp U kx)) U) U<|sw (zm 19 U qj5 U U) U<|je U U (qw (tv := .g (G.agg [G.int 0, G.int y40, G.int x37])) U qak U U U U U)<|qd ?_;refine ko (γ := Int × Int × Int × Int) (fun g => ([(1, .g (G.sl 7 (List.map S1079.c a1))), (5, .g (G.ref (S115.c a2))), (7, .eptr 7 1 0 0), (8, .g (G.sl 1 (List.map cInt ((s69 a2.Period).1)))), (11, .ptr 11 0), (12, .ptr 12 0), (13, .ptr 13 0), (15, .ptr 15 0), (18, .g (G.int y40)), (19, .ptr 19 0), (31, .g (G.sl 11 (List.map S2062.c a0))), (32, .g (G.int (List.length a0 : Int))), (33, .g (G.int ((k4 : Nat) : Int))), (48, .g (G.sl 1 (List.map cInt ((s69 a2.Period).1)))), (49, .g (G.int (List.length ((s69 a2.Period).1) : Int))), (50, .g (G.int ((k23 : Nat) : Int))), (57, .g (G.agg [G.int (IntKind.i64.wrap (y24 - 1)), G.int y24])), (58, .g (G.int x26)), (63, .g (G.fn (.func 122) [] [G.ref [G.int y34], G.ref (S2062.c y5)]))], [(7, .arr 195 1 (List.map cInt x38)), (11, .box [.g (G.str y5.Name), .g (G.str y5.Kind), .g (G.str y5.Terminal), .g (G.int y5.Length), .g (G.int y5.Step), .g (G.int y5.fFrom), .g (G.int y5.fTo), .g (G.int y5.Period.fFrom), .g (G.int y5.Period.fTo), .g (G.int y5.Period.Days), .g (G.int y5.Most)]), (12, .box [.g (G.sl 1 (List.map cInt (ofL y5 a1)))]), (13, .box [.g (G.int g.2.1), .g (G.int g.2.2.1), .g (G.int g.2.2.2)]), (15, .box [.g (G.int y24)]), (19, .box [.g (G.int 0), .g (G.int y40), .g (G.int g.1)])])) (fun g => qbh (fun z0_ z1_ z2_ z3_ => vo (fun z0_ z1_ z2_ z3_ z4_ => ky (fun k_ z0_ z1_ z2_ z3_ => ve (fun k_ z0_ => jz a1 a2 t6 k_ z0_) a1 k4 y5 t25 k_ z0_ z1_ z2_ z3_) a1 y5 k23 y24 k33 z0_ z1_ z2_ z3_ z4_) a1 y5 y24 x26 t41 z0_ z1_ z2_ z3_) y5 y24 x38 y40 g.1 g.2.1 g.2.2.1 g.2.2.2 = some R) ?_ ?_
          ·refine qb<|qa [.r, .r, .p]<|sr (zj U qak U U U U) U<|sr (zj U qak U U U U) U<|su (qzj [.int .i64 x35, .int .i64 x36, .int .i64 x37] [.int .i64 0, .int .i64 y40, .int .i64 x37] U qyw U U U U U) U<|qd ?_;refine ql _ U (fun h12 => ?_) (fun h12 => ?_)
           ·replace h12 : (!(qit [decide (x35 = 0), decide (x36 = y40), decide (x37 = x37)])) = true := h12;replace hR := zk hR h12;(try simp only [bB] at h12);refine qb<|qa [.r, .p, .p, .r, .p, .p, .w]<|sr (zo U q1b U U U) U<|sm U U<|su (qu U qf5 U) U<|sr (zo U ty3 U U U) U<|su (qg U q87 U (q6y (ofL y5 a1) y40 y5.Length (qoa hms _) (qsg (ql6 hms _) (qoa hms _) (by omega) (by omega) (by have := hlok.l0; omega) hlok.l1)) (qe U (qe U (qe U qk)))) U<|su (qu U qeq U) U<|je U U (qw (tv := .g (G.int (cntI (ofL y5 a1) y40 y5.Length))) U ty3 U U U U U)<|qd<|qa [.r, .w]<|sr (zj U qak U U U U) U<|je U U (qw (tv := .g (G.agg [G.int 0, G.int y40, G.int (cntI (ofL y5 a1) y40 y5.Length)])) U qak U U U U U)<|qd ?_;exact ⟨U, (cntI (ofL y5 a1) y40 y5.Length, 0, y40, cntI (ofL y5 a1) y40 y5.Length), jA, jA, U, hR, O⟩
           ·replace hR := zl hR h12;refine qn ?_;exact ⟨U, (x37, x35, x36, x37), jA, jA, U, hR, O⟩
          ·rintro ⟨x42, x43, x44, x45⟩ hR;replace hR : qbh (fun z0_ z1_ z2_ z3_ => vo (fun z0_ z1_ z2_ z3_ z4_ => ky (fun k_ z0_ z1_ z2_ z3_ => ve (fun k_ z0_ => jz a1 a2 t6 k_ z0_) a1 k4 y5 t25 k_ z0_ z1_ z2_ z3_) a1 y5 k23 y24 k33 z0_ z1_ z2_ z3_ z4_) a1 y5 y24 x26 t41 z0_ z1_ z2_ z3_) y5 y24 x38 y40 x42 x43 x44 x45 = some R := hR;unfold qbh at hR;refine qb<|qb<|qa [.p, .r, .p, .r, .p]<|su (qu U qeq U) U<|sr (zo U ty3 U U U) U<|su (qu U qf7 U) U<|sr (zo U ty3 U U U) U<|su (zd U U U) U<|qd ?_;refine ql _ U (fun h10 => ?_) (fun h10 => ?_)
           ·replace hR := zk hR h10;refine zw ?_;exact ⟨(x43, x44, x45, x38), ⟨hR, ln39⟩, jA⟩
           ·replace h10 : (decide (x42 < y5.Most)) = false := h10;replace hR := zl hR h10;(try simp only [bB] at h10);refine qn<|qb<|zr [.p, .r, .p, .p, .p, .p, .p, .r, .p, .r, .p, .p, .p, .p, .p] (by kernel_rfl)<|sm U U<|sr (zo U ty3 U U U) U<|su (qc4 U U U) U<|su (kq U U U) U<|su (qhm U U U) U<|sm U U<|su (qu U qf5 U) U<|sr (zo U ty3 U U U) U<|su (kl U U U) U<|sr (zo U ty3 U U U) U<|su (qc4 U U U) U<|su (kq U U U) U<|su (qq2 U U U) U<|sa U U<|sa U U<|qd<|qb<|qa [.p, .p, .p]<|sm U U<|sm U U<|su (zd U U U) U<|qd ?_;refine ql _ U (fun h11 => ?_) (fun h11 => ?_)
            ·replace hR := zk hR h11;refine qb ?_;obtain ⟨y46, by46, hR⟩ := qh hR;obtain ⟨y47, by47, hR⟩ := qh hR;refine qa [.p, .p, .r, .p, .p, .w]<|sm U U<|su (qck U Tryz.underlying195 ty3 U U (jj by46) (Nat.lt_of_lt_of_eq (jt (zh by46)) ln39)) U<|sr (qhi (f := cInt) (l := x38) (a := y46) U ty3 U U (zh by46) U) U<|su (kl U U U) U<|su (qck U Tryz.underlying195 ty3 U U (jj by47) (Nat.lt_of_lt_of_eq (jt (zh by47)) ln39)) U<|je U U (qaq (f := cInt) (l := x38) (a' := IntKind.i64.wrap (y46 + 1)) U ty3 U U U (Nat.lt_of_lt_of_eq (Nat.lt_of_lt_of_eq (jt (zh by47)) ln39) (Eq.symm ln39)) U (fun _ => U))<|qd ?_;obtain ⟨y48, by48, hR⟩ := qh hR;obtain ⟨y49, by49, hR⟩ := qh hR;refine qa [.p, .p, .r, .p, .p, .w]<|sm U U<|su (qck U Tryz.underlying195 ty3 U U (jj by48) (Nat.lt_of_lt_of_eq (jt (zh by48)) ((List.length_set ..).trans ln39))) U<|sr (qhi (f := cInt) (l := List.set x38 (Int.toNat (max 0 (IntKind.i64.wrap (y40 - (IntKind.i64.wrap (1440 * y24)))))) (IntKind.i64.wrap (y46 + 1))) (a := y48) U ty3 U U (zh by48) U) U<|su (kq U U U) U<|su (qck U Tryz.underlying195 ty3 U U (jj by49) (Nat.lt_of_lt_of_eq (jt (zh by49)) ((List.length_set ..).trans ln39))) U<|je U U (qaq (f := cInt) (l := List.set x38 (Int.toNat (max 0 (IntKind.i64.wrap (y40 - (IntKind.i64.wrap (1440 * y24)))))) (IntKind.i64.wrap (y46 + 1))) (a' := IntKind.i64.wrap (y48 - 1)) U ty3 U U U (Nat.lt_of_lt_of_eq (Nat.lt_of_lt_of_eq (jt (zh by49)) ((List.length_set ..).trans ln39)) (Eq.symm ((List.length_set ..).trans ln39))) U (fun _ => U))<|qd ?_;exact ⟨(x43, x44, x45, List.set (List.set x38 (Int.toNat (max 0 (IntKind.i64.wrap (y40 - (IntKind.i64.wrap (1440 * y24)))))) (IntKind.i64.wrap (y46 + 1))) (Int.toNat (min 1440 (IntKind.i64.wrap ((IntKind.i64.wrap (y40 + y5.Length)) - (IntKind.i64.wrap (1440 * y24)))))) (IntKind.i64.wrap (y48 - 1))), ⟨hR, ((List.length_set ..).trans ((List.length_set ..).trans ln39))⟩, jA⟩
            ·replace hR := zl hR h11;refine qn ?_;exact ⟨(x43, x44, x45, x38), ⟨hR, ln39⟩, jA⟩
         ·rintro ⟨x35, x36, x37, x38⟩ ⟨hR, ln39⟩;replace hR : vo (fun z0_ z1_ z2_ z3_ z4_ => ky (fun k_ z0_ z1_ z2_ z3_ => ve (fun k_ z0_ => jz a1 a2 t6 k_ z0_) a1 k4 y5 t25 k_ z0_ z1_ z2_ z3_) a1 y5 k23 y24 k33 z0_ z1_ z2_ z3_ z4_) a1 y5 y24 x26 [] x35 x36 x37 x38 = some R := hR;rw [vo] at hR;(try dsimp only at hR);refine qa [.p, .p]<|su (zn U U U iG) U<|sm U U<|qd ?_;exact ⟨U, (k33, x26 + 1, x35, x36, x37, x38), jA, jA, U, ⟨iB, iB, ln39, hR⟩, (by dsimp only; omega)⟩
        ·replace h8 : (decide (x26 < 2)) = false := h8;replace h8 := decF h8
         have hkz_ : k33 = 0 := by omega
         rw [hkz_] at hR;rw [ky] at hR;refine zw<|qa [.p, .p]<|su (zn U U U iE) U<|sm U U<|qd ?_;exact ⟨U, (k23 + 1, t25, x27, x28, x29, x30), jA, jA, U, ⟨ln31, hd, hR⟩, by simp [et25]⟩
      ·replace h6 : (decide (((k23 : Nat) : Int) < (List.length ((s69 a2.Period).1) : Int))) = false := h6;have hn_ := zz hd (decF h6);rw [hn_] at hR;rw [ve] at hR;refine zw ?_;exact ⟨U, x21, jA, ⟨U, O⟩, U, ⟨ln22, hR⟩, O⟩
   ·rintro x15 ⟨ln16, hR⟩;replace ln16 : List.length x15 = 1441 := ln16;replace hR : qez (fun k_ z0_ => jz a1 a2 t6 k_ z0_) k4 x15 = some R := hR;unfold qez at hR;refine qa [.p, .p]<|su (zn U U U iE) U<|sm U U<|qd ?_;exact ⟨U, (k4 + 1, t6, x15), jA, ⟨U, O⟩, U, ⟨ln16, hd, hR⟩, by simp [et6]⟩
  ·replace h1 : (decide (((k4 : Nat) : Int) < (List.length a0 : Int))) = false := h1;have hn_ := zz hd (decF h1);rw [hn_] at hR;rw [jz] at hR;refine zw<|qb<|qa [.w, .p, .p] ?_;refine sw (qma (f := cBool) (a := false) 113 U qzu U (by decide) U U) U ?_;refine su (qdx U U) U<|sa U U<|qd<|qb<|qb<|qa [.p]<|sm U U<|qd<|qp<|zf (γ := Nat × Int × Int × (List Bool)) (fun g => ([(7, .eptr 7 1 0 0), (22, .eptr 113 1 0 0), (23, .g (G.int g.2.1)), (114, .g (G.int g.2.2.1))], [(7, .arr 195 1 (List.map cInt x2)), (113, .arr 198 1 (List.map cBool g.2.2.2))])) (fun g => g.1 = ((1440 : Int) - g.2.2.1).toNat ∧ 0 ≤ g.2.2.1 ∧ List.length g.2.2.2 = 1440 ∧ qat x2 g.1 g.2.1 g.2.2.1 g.2.2.2 = some R) (fun g => g.1) ⟨U, (((1440 : Int) - 0).toNat, 0, 0, List.replicate 1440 false), jA, ⟨U, U, O⟩, U, ⟨U, iD, List.length_replicate, (by exact hR)⟩, O⟩ ?_
   ·rintro ⟨k12, x7, x8, x9⟩ ⟨hk2, iv2_0, ln10, hR⟩;replace hk2 : k12 = ((1440 : Int) - x8).toNat := hk2;replace hR : qat x2 k12 x7 x8 x9 = some R := hR;replace iv2_0 : 0 ≤ x8 := iv2_0;replace ln10 : List.length x9 = 1440 := ln10;refine qb<|qa [.p]<|su (zd U U U) U<|qd<|qb ?_;refine ql _ U (fun h3 => ?_) (fun h3 => ?_)
    ·replace h3 : (decide (x8 < 1440)) = true := h3;replace h3 := decT h3;obtain ⟨k12, hkq_⟩ : ∃ m, k12 = m + 1 := ⟨k12 - 1, by omega⟩;rw [hkq_] at hR;rw [qat] at hR;(try dsimp only at hR);refine qn<|qb<|qp<|qb<|qa [.p, .p]<|sm U U<|sa U U<|qd<|qb ?_;obtain ⟨y13, by13, hR⟩ := qh hR;refine qa [.p, .p, .p, .r, .p, .p]<|sm U U<|sm U U<|su (qck U Tryz.underlying195 ty3 U U (jj by13) (Nat.lt_of_lt_of_eq (jt (zh by13)) ln3)) U<|sr (qhi (f := cInt) (l := x2) (a := y13) U ty3 U U (zh by13) U) U<|su (kl U U U) U<|sa U U<|qd ?_;obtain ⟨y14, by14, hR⟩ := qh hR;refine qa [.p, .p, .p, .p, .p, .p, .w]<|su (qar U U) U<|sm U U<|sm U U<|su (zy U U U) U<|su (qdv U U) U<|su (qck U Tryz.underlying198 ty4 U U (jj by14) (Nat.lt_of_lt_of_eq (jt (zh by14)) ln10)) U<|je U U (qaq (f := cBool) (l := x9) (a' := decide (0 < IntKind.i64.wrap (x7 + y13))) U ty4 U U U (Nat.lt_of_lt_of_eq (Nat.lt_of_lt_of_eq (jt (zh by14)) ln10) (Eq.symm ln10)) U (fun _ => U))<|qd<|qa [.p, .p]<|su (zn U U U iG) U<|sm U U<|qd ?_;exact ⟨U, (k12, IntKind.i64.wrap (x7 + y13), x8 + 1, List.set x9 (Int.toNat x8) (decide (0 < IntKind.i64.wrap (x7 + y13)))), jA, ⟨U, U, O⟩, U, ⟨iB, iB, ((List.length_set ..).trans ln10), hR⟩, (by dsimp only; omega)⟩
    ·replace h3 : (decide (x8 < 1440)) = false := h3;replace h3 := decF h3
     have hkz_ : k12 = 0 := by omega
     rw [hkz_] at hR;rw [qat] at hR;refine zw<|qb<|qa [.p, .p]<|su (qar U U) U<|su (qdx U U) U<|qd<|qo ?_;obtain rfl := Option.some.inj hR;exact za U (q62 U U)
theorem q38 (x : Int) : s180 x ≤ 7 := by
 unfold s180;generalize IntKind.i64.wrap (x + 5) = y;have := Int.tmod_lt_of_pos y (show (0 : Int) < 7 by decide)
 omega
end Go.Sim
