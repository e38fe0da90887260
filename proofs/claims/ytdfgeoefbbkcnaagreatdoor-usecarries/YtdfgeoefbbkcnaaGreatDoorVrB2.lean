/-
  What is proved: lemmas and contracts of functions on the way to the law useCarries (part 11).
-/
import Derived.Test.YtdfgeoefbbkcnaaGreatDoorVrB1
set_option linter.unusedSectionVars false
set_option linter.unusedSimpArgs false
set_option linter.unusedVariables false
set_option linter.unnecessarySimpa false
set_option linter.deprecated false
namespace Go.Sim
open Go.Proofs
theorem qvd : ∀ {l : List Int}, (∀ x ∈ l, x = 0) → s84 l = 0 := by
 intro l h
 have key : ∀ (l : List Int) (k : Nat), (∀ x ∈ l, x = 0) → s84_l1 l k = 0 := by
  intro l
  induction l with
  | nil => intro k _; rfl
  | cons y l ih =>
   intro k h;rw [s84_l1, h y List.mem_cons_self]
   simp [ih _ fun x hx => h x (List.mem_cons_of_mem _ hx)]
 exact key l 0 h
abbrev nX : ByteArray := ⟨#[120]⟩
abbrev kA : ByteArray := ⟨#[65]⟩
theorem qve : s95 nX = 0 := by decide +kernel
theorem qvf : s97 kA = 0 := by decide +kernel
theorem qvg : s23 s71 = 0 := by rw [qrk]; decide +kernel
def carU (l : List Int) : List S151 := l.map (fun d => (⟨nX, 1440 * d + 5, kA⟩ : S151))
theorem qpm (p : S45) : s103 nX kA p 5 = carU (dayP p) := by
 unfold s103 carU slotsL momL dayP;rw [List.map_map]; rfl
theorem qs8 {d : Int} (h : 0 ≤ d ∧ d ≤ 99999) : s99 (noteL d) = 0 := by
 rw [qrl]
 have hm : s96 (1440 * d + 5) = 0 := by
  unfold s96 s90;rw [decide_eq_false (by omega), decide_eq_false (by omega)]; rfl
 have e : s89 [s95 nX, s96 (noteL d).Moment, s97 kA] = 0 := by
  show s89 [s95 nX, s96 (IntKind.i64.wrap ((IntKind.i64.wrap (1440 * d)) + 5)), s97 kA] = 0;rw [qby h, hm, qve, qvf]; rfl
 unfold s100;rw [decide_eq_true (show (noteL d).Kind = (⟨#[102, 108, 121]⟩ : ByteArray) from rfl), cond_true];show s100_j2 (s89 [s95 nX, s96 (noteL d).Moment, s97 kA]) (⟨#[]⟩) 0 (⟨#[]⟩) 0 0 ByteArray.empty 0 = 0;rw [e]
 decide +kernel
theorem qpn {l : List Int} (hl : l.length ≤ 61) (hr : ∀ d ∈ l, 0 ≤ d ∧ d ≤ 99999) : s27 (l.map noteL) = 0 := by
 unfold s27 s98;rw [List.length_map, decide_eq_false (by omega), cond_false, qv7, List.nil_append];refine qvd fun x hx => ?_;obtain ⟨n, hn, rfl⟩ := List.mem_map.1 hx;obtain ⟨d, hd, rfl⟩ := List.mem_map.1 hn;exact qs8 (hr d hd)
theorem qs9 {l : List Int} (ha : l.Pairwise (· < ·)) (hr : ∀ d ∈ l, 0 ≤ d ∧ d ≤ 99999) : flyL (l.map noteL) = carU l := by
 have e : ((l.map noteL).filter s172).map s173 = carU l := by
  have := qu7 l;rw [qer, qes] at this;rw [this];unfold carU;refine List.map_congr_left fun d hd => ?_;rw [qby (hr d hd)]
 unfold flyL;rw [e];refine qej ?_;unfold carU;rw [List.pairwise_map];refine ha.imp fun {a b} hab => ?_
 have : s127 (⟨nX, 1440 * a + 5, kA⟩ : S151) (⟨nX, 1440 * b + 5, kA⟩ : S151) = true := by
  rw [vc]; left;show 1440 * a + 5 < 1440 * b + 5
  omega
 rw [this]; rfl
theorem qpo (a : S23) (s : S151) (l : List Int) : s128 a s (l.map noteL) = false := by
 rw [← qnp];unfold s177;rw [qe8, List.any_eq_false];intro n hn;obtain ⟨d, _, rfl⟩ := List.mem_map.1 hn;unfold s207;rw [decide_eq_false (show ¬ (noteL d).Kind = (⟨#[98, 97, 99, 107]⟩ : ByteArray) by show ¬ (⟨#[102, 108, 121]⟩ : ByteArray) = ⟨#[98, 97, 99, 107]⟩; decide)]
 simp
theorem qvh {l : List Int} (ha : l.Pairwise (· < ·)) (hr : ∀ d ∈ l, 0 ≤ d ∧ d ≤ 99999) : ∀ i ∈ idxs l.length, ∀ j ∈ idxs l.length, okI s71 (carU l) (carU l) i j = decide (i = j) := by
 intro i hi j hj;obtain ⟨i0, i1⟩ := qax.1 hi;obtain ⟨j0, j1⟩ := qax.1 hj
 have ei : (carU l)[i.toNat]? = some ⟨nX, 1440 * l[i.toNat] + 5, kA⟩ := by simp [carU, List.getElem?_eq_getElem i1]
 have ej : (carU l)[j.toNat]? = some ⟨nX, 1440 * l[j.toNat] + 5, kA⟩ := by simp [carU, List.getElem?_eq_getElem j1]
 rw [qqp ei ej];have ri := hr _ (List.getElem_mem i1);have rj := hr _ (List.getElem_mem j1);have h1 : IntKind.i64.wrap (1440 * l[i.toNat] + 5 - 15) = 1440 * l[i.toNat] + 5 - 15 := wrap_i64 ⟨by omega, by omega⟩;have h2 : IntKind.i64.wrap (1440 * l[i.toNat] + 5 + 30) = 1440 * l[i.toNat] + 5 + 30 := wrap_i64 ⟨by omega, by omega⟩
 have e : s142 s71 ⟨nX, 1440 * l[i.toNat] + 5, kA⟩ ⟨nX, 1440 * l[j.toNat] + 5, kA⟩ = (decide (1440 * l[i.toNat] + 5 - 15 ≤ 1440 * l[j.toNat] + 5) && decide (1440 * l[j.toNat] + 5 ≤ 1440 * l[i.toNat] + 5 + 30)) := by
  unfold s142;show ((eqAnd [decide (nX = nX), decide (1440 * l[j.toNat] + 5 = 1440 * l[j.toNat] + 5), decide (kA = kA)] && decide (IntKind.i64.wrap (1440 * l[i.toNat] + 5 - 15) ≤ 1440 * l[j.toNat] + 5)) && decide (1440 * l[j.toNat] + 5 ≤ IntKind.i64.wrap (1440 * l[i.toNat] + 5 + 30))) = _;rw [h1, h2]
  simp [eqAnd]
 rw [e];have hp := List.pairwise_iff_getElem.1 ha
 rcases Nat.lt_trichotomy i.toNat j.toNat with h | h | h
 ·have := hp _ _ i1 j1 h;rw [decide_eq_false (show ¬ i = j by omega)];rw [decide_eq_false (show ¬ 1440 * l[j.toNat] + 5 ≤ 1440 * l[i.toNat] + 5 + 30 by omega), Bool.and_false]
 ·have hij : i = j := by omega
  subst hij;rw [decide_eq_true rfl, decide_eq_true (by omega), decide_eq_true (by omega)]; rfl
 ·have := hp _ _ j1 i1 h;rw [decide_eq_false (show ¬ i = j by omega)];rw [decide_eq_false (show ¬ 1440 * l[i.toNat] + 5 - 15 ≤ 1440 * l[j.toNat] + 5 by omega), Bool.false_and]
theorem qfb (l : List Int) : (carU l).length = l.length := by simp [carU]
theorem qta {l : List Int} (ha : l.Pairwise (· < ·)) : UpS (carU l) := by
 unfold UpS carU;rw [List.pairwise_map]
 exact ha.imp fun {a b} h => by show 1440 * a + 5 ≤ 1440 * b + 5; omega
theorem qk1 {l : List Int} (ha : l.Pairwise (· < ·)) (hr : ∀ d ∈ l, 0 ≤ d ∧ d ≤ 99999) : s124 s71 (carU l) (l.map noteL) = some (List.replicate l.length 1) := by
 rw [qsv]
 congr 1
 have hg : (fun s => s128 s71 s (l.map noteL)) = fun _ => false := funext fun s => qpo s71 s l;rw [hg, qs9 ha hr];generalize hx : (fun s => s129 s71 s (l.map noteL)) = x;refine List.ext_getElem? fun i => ?_
 rcases Nat.lt_or_ge i l.length with hi | hi
 ·have hs : (carU l)[i]? = some ⟨nX, 1440 * l[i] + 5, kA⟩ := by simp [carU, List.getElem?_eq_getElem hi]
  rw [qsx hs];have hf : (carU l).filter (fun s => !(fun _ => false) s) = carU l := List.filter_eq_self.2 fun _ _ => rfl
  have hm : mat s71 (carU l) (carU l) = (idxs l.length).map (fun i => ⟨i, i⟩) := by
   unfold mat;rw [qs0 (qta ha), qfb];exact qnr (qvh ha hr) (idxs l.length) [] (qkm _) (fun _ h => h) (fun _ _ h => by cases h)
  have hin : i ∈ flownI (atF (fun _ => false) (carU l) 0) (mat s71 ((carU l).filter (fun s => !(fun _ => false) s)) (carU l)) := by
   rw [hf, hm, qs1, qfb];unfold flownI;refine List.mem_filterMap.2 ⟨⟨(i : Int), (i : Int)⟩, List.mem_map.2 ⟨(i : Int), qax.2 ⟨by omega, by omega⟩, rfl⟩, ?_⟩
   simp [hi]
  rw [if_pos hin, List.getElem?_replicate, if_pos hi]
 ·rw [List.getElem?_eq_none (by rw [qsw, qfb]; exact hi), List.getElem?_eq_none (by rw [List.length_replicate]; exact hi)]
theorem qg2 : ∀ (n k : Nat) (u : Int), 0 ≤ u → u + n ≤ 1000 → s58_l1 (List.replicate n 1) k u u = some (⟨u + n, u + n⟩, 0)
 | 0, k, u, _, _ => by
  rw [List.replicate_zero, s58_l1]
  simp
 | n + 1, k, u, h0, h1 => by
  have e : s126 (S55.mk u u) 1 = S55.mk (u + 1) (u + 1) := by
   unfold s126 s126_j1;rw [decide_eq_true (by decide)];show S55.mk (IntKind.i64.wrap (u + 1)) (IntKind.i64.wrap (u + 1)) = _;rw [wrap_i64 ⟨by omega, by omega⟩]
  rw [List.replicate_succ, s58_l1, e]
  simp only
  rw [qg2 n (k + 1) (u + 1) (by omega) (by omega)]
  have : u + 1 + (n : Int) = u + ((n + 1 : Nat) : Int) := by omega
  rw [this]
theorem qk2 {a0 : S45} {a1 : S67} {R : List S45} (hp : s102 a0 = 0) (hs : okS a1) (hd : (s104 a0).length ≤ 61) (hne : s104 a0 ≠ []) (hR : s108 a0 a1 = some (R, 0)) : s64 s71 [carQ a0] ((s104 a0).map noteL) a1 = some ([⟨nX, R⟩], 0) := by
 have ha : (s104 a0).Pairwise (· < ·) := by rw [xv a0 hp]; exact xf _ _ _
 have hr := (vo hp).2;have hpos : 0 < (s104 a0).length := List.length_pos_iff.2 hne
 have e134 : s134 [carQ a0] = 0 := by
  unfold s134;rw [decide_eq_false (by simp), cond_false, s134_l1]
  have e : s84 [(s87 (carQ a0).Name), (s86 (s184 (List.take (Int.toNat ((0 : Nat) : Int)) [carQ a0]) (fun x0 => s185 x0 (carQ a0))) 9), (s101 (carQ a0).Kind), (s102 a0), (s85 (carQ a0).Minute 0 1439)] = 0 := by
   refine qvd fun x hx => ?_
   have h1 : s87 (carQ a0).Name = 0 := by rw [qhu]; exact qve
   have h2 : s86 (s184 (List.take (Int.toNat ((0 : Nat) : Int)) [carQ a0]) (fun x0 => s185 x0 (carQ a0))) 9 = 0 := rfl
   have h3 : s101 (carQ a0).Kind = 0 := by rw [qi5]; exact qvf
   have h4 : s85 (carQ a0).Minute 0 1439 = 0 := rfl;simp only [List.mem_cons, List.not_mem_nil, or_false] at hx
   rcases hx with rfl | rfl | rfl | rfl | rfl
   ·exact h1
   ·exact h2
   ·exact h3
   ·exact hp
   ·exact h4
  show (bif decide (s84 [(s87 (carQ a0).Name), (s86 (s184 (List.take (Int.toNat ((0 : Nat) : Int)) [carQ a0]) (fun x0 => s185 x0 (carQ a0))) 9), (s101 (carQ a0).Kind), (s102 a0), (s85 (carQ a0).Minute 0 1439)] ≠ 0) then _ else s134_l1 [carQ a0] [] (0 + 1)) = 0;rw [e]
  rfl
 have err : s84 [s23 s71, s134 [carQ a0], s27 ((s104 a0).map noteL), s107 a1] = 0 := by
  rw [qvg, e134, qpn hd hr, qe3 hs]; rfl
 have e124 : s124 s71 (s103 nX kA a0 5) ((s104 a0).map noteL) = some (List.replicate (s104 a0).length 1) := by
  rw [qpm, ← qid hp]; exact qk1 ha hr
 have e58 := qg2 (s104 a0).length 0 0 (by omega) (by omega);unfold s64;rw [err, decide_eq_false (by decide), cond_false, s64_l1];show bindO (s124 s71 (s103 nX kA a0 5) ((s104 a0).map noteL)) _ = _;rw [e124];simp only [bindO];rw [qnt _ s71 a1 [] 0 (carQ a0) _ 0 0 0 0 _ e58, s64_l2]
 have e106 : s106 s71 (S55.mk (0 + ((s104 a0).length : Int)) (0 + ((s104 a0).length : Int))) = true := by
  unfold s106;show (decide (0 < 0 + ((s104 a0).length : Int)) && decide (IntKind.i64.wrap (80 * (0 + ((s104 a0).length : Int))) ≤ IntKind.i64.wrap (100 * (0 + ((s104 a0).length : Int))))) = true;rw [wrap_i64 (n := 80 * (0 + ((s104 a0).length : Int))) ⟨by omega, by omega⟩, wrap_i64 (n := 100 * (0 + ((s104 a0).length : Int))) ⟨by omega, by omega⟩, decide_eq_true (by omega), decide_eq_true (by omega)]; rfl
 show (bif !(s106 s71 (S55.mk (0 + ((s104 a0).length : Int)) (0 + ((s104 a0).length : Int)))) then _ else bindO (s108 a0 a1) _) = _;rw [e106, hR]
 rfl
theorem qj2 (a0 : S45) (a1 : S67) (r1 : List S45 × Int) : ∀ (t : List S45) (k : Nat) (x : List Int), (∀ p ∈ t, s102 p = 0) → s12_l1 a0 a1 r1 t k x = s12_l1 a0 a1 r1 [] 0 (x ++ t.flatMap dq)
 | [], k, x, _ => by simp [s12_l1]
 | p :: t, k, x, h => by
  have hp := h p List.mem_cons_self;have e : s104 p = dq p := xv p hp
  have e1 : s12_l1 a0 a1 r1 (p :: t) k x = (bif decide ((s69 p).2 ≠ 0) then some false else s12_l1 a0 a1 r1 t (k + 1) (x ++ (s69 p).1)) := by rw [s12_l1]
  rw [e1, qj0 hp];show (bif decide ((0 : Int) ≠ 0) then _ else s12_l1 a0 a1 r1 t (k + 1) (x ++ s104 p)) = _;rw [decide_eq_false (by decide), cond_false, qj2 a0 a1 r1 t _ _ fun q hq => h q (List.mem_cons_of_mem _ hq), e, List.flatMap_cons, List.append_assoc]
theorem qvi {a1 : S67} (hs : okS a1) : s70 a1 = some (⟨beg a1, nxt a1 - 1, 127⟩, 0) := by
 have b := xz hs;unfold s70;rw [qe3 hs, decide_eq_false (by decide), cond_false, qia hs, qne hs];simp only [bindO];rw [wrap_i64 ⟨by omega, by omega⟩]
theorem qnu (a0 : S45) (a1 : S67) (r1 : List S45 × Int) : ∀ (t : List Int) (k : Nat) (x : List S104), s12_l3 a0 a1 r1 t k x = s12_l3 a0 a1 r1 [] 0 (x ++ t.map noteL)
 | [], k, x => by simp [s12_l3]
 | d :: t, k, x => by
  have e1 : s12_l3 a0 a1 r1 (d :: t) k x = s12_l3 a0 a1 r1 t (k + 1) (x ++ [noteL d]) := by rw [s12_l3]; rfl
  rw [e1, qnu a0 a1 r1 t, List.append_assoc, List.map_cons]; rfl
theorem qpp (a0 : S45) (a1 : S67) : s12 a0 a1 = some true := by
 unfold s12;rw [qp8]
 cases hc : (((!true) || (decide ((s40 a0) ≠ 0))) || (decide (60 < IntKind.i64.wrap (a0.fTo - a0.fFrom)))) || (decide ((s41 a1) ≠ 0))
 ·rw [cond_false];simp only [Bool.or_eq_false_iff, Bool.not_true, decide_eq_false_iff_not, true_and] at hc;obtain ⟨hp, hd, hs⟩ := qqq hc.1.1 hc.1.2 hc.2;have e69 := qj0 hp
  have hd : (s104 a0).length ≤ 61 := by rw [e69] at hd; exact hd
  have b := xz hs
  rcases qj1 hp hs with ⟨e, he, hne, h1⟩ | ⟨own, R, ho, h1, h2, h3, h4, h5, h6⟩
  ·rw [qfa hp hs h1];have hpos : 0 < (s104 a0).length := List.length_pos_iff.2 hne;simp only [bindO, e69];rw [decide_eq_false (by decide), decide_eq_false (by omega), Bool.or_self, cond_false, decide_eq_true (by rcases he with rfl | rfl <;> decide), cond_true, decide_eq_true (by omega : (0 : Int) < _)]
   rcases he with rfl | rfl <;> rfl
  ·rw [qfa hp hs h1];simp only [bindO];have hbo := xz ho
   have ha : (s104 a0).Pairwise (· < ·) := by rw [xv a0 hp]; exact xf _ _ _
   have hr := (vo hp).2;obtain ⟨m, hm, hL, hnx, hlt⟩ := qg1 own a1 (s104 a0) ha
   have eD : (s69 a0).1 = s104 a0 := by rw [e69]
   have eE : (s69 a0).2 = 0 := by rw [e69]
   rw [eE, eD];rw [decide_eq_false (by decide), decide_eq_false (by omega), Bool.or_self, cond_false];show (bif decide ((0 : Int) ≠ 0) then _ else s12_l1 a0 a1 (R, 0) R 0 []) = some true;rw [decide_eq_false (by decide), cond_false, qj2 a0 a1 (R, 0) R 0 [] h3, List.nil_append, h4, s12_l1, qvi hs];simp only [bindO]
   have hLl : (eqvL own a1 (s104 a0)).length = m := by rw [hL, List.length_map, List.length_take]; omega
   rw [eD, decide_eq_false (by decide), decide_eq_false (by rw [hLl]; omega), Bool.or_self, cond_false]
   -- the days, one by one
   have hget : ∀ k, k < m → ∃ d, (s104 a0)[k]? = some d ∧ (eqvL own a1 (s104 a0))[k]? = some (eqv own a1 d) ∧ eqv own a1 d < nxt a1 ∧ beg own ≤ d ∧ 0 ≤ d ∧ d ≤ 99999 := fun k hk => by
    have hkD : k < (s104 a0).length := by omega
    have hmem := List.getElem_mem hkD;refine ⟨(s104 a0)[k], List.getElem?_eq_getElem hkD, ?_, ?_, h6 _ hmem, (hr _ hmem).1, (hr _ hmem).2⟩
    ·rw [hL, List.getElem?_map, List.getElem?_take, if_pos hk, List.getElem?_eq_getElem hkD]; rfl
    ·refine hlt _ ?_
     have : ((s104 a0).take m)[k]? = some (s104 a0)[k] := by rw [List.getElem?_take, if_pos hk, List.getElem?_eq_getElem hkD]
     exact List.mem_of_getElem? this
   generalize hE : s12_l2 a0 a1 (R, 0) (eqvL own a1 (s104 a0)) (⟨beg a1, nxt a1 - 1, 127⟩, 0) [] 0 = E
   have loop : ∀ (t : List Int) (k : Nat), (eqvL own a1 (s104 a0)).drop k = t → s12_l2 a0 a1 (R, 0) (eqvL own a1 (s104 a0)) (⟨beg a1, nxt a1 - 1, 127⟩, 0) t k = E := by
    intro t
    induction t with
    | nil => intro k _; rw [← hE, s12_l2, s12_l2]
    | cons y t ih =>
     intro k hdk
     have hkm : k < m := by
      rcases Nat.lt_or_ge k m with h | h
      ·exact h
      ·rw [List.drop_eq_nil_of_le (by omega)] at hdk; cases hdk
     have hdk' : (eqvL own a1 (s104 a0)).drop (k + 1) = t := by
      have : (eqvL own a1 (s104 a0)).drop (k + 1) = ((eqvL own a1 (s104 a0)).drop k).drop 1 := by rw [List.drop_drop]
      rw [this, hdk]; rfl
     obtain ⟨d, g1, g2, g3, g4, g5, g6⟩ := hget k hkm;obtain ⟨d0, f1, f2, f3, f4, f5, f6⟩ := hget 0 (by omega)
     have hy : y = eqv own a1 d := by
      have : ((eqvL own a1 (s104 a0)).drop k)[0]? = some y := by rw [hdk]; rfl
      rw [List.getElem?_drop, Nat.add_zero, g2] at this;exact (Option.some.inj this).symm
     subst hy;have q1 : eqv own a1 d = beg a1 + d - beg own := rfl;have q2 : eqv own a1 d0 = beg a1 + d0 - beg own := rfl;have i0 : ixO (eqvL own a1 (s104 a0)) 0 = some (eqv own a1 d0) := qbd (i := 0) f2;have ik : ixO (s104 a0) ((k : Nat) : Int) = some d := qbd g1;have id0 : ixO (s104 a0) 0 = some d0 := qbd (i := 0) f1;have e1 : decide (eqv own a1 d < beg a1) = false := decide_eq_false (by omega);have e2 : decide (nxt a1 - 1 < eqv own a1 d) = false := decide_eq_false (by omega)
     have e3 : decide (IntKind.i64.wrap (eqv own a1 d - eqv own a1 d0) ≠ IntKind.i64.wrap (d - d0)) = false := decide_eq_false (by
      have : eqv own a1 d - eqv own a1 d0 = d - d0 := by omega
      rw [this]; simp)
     have e4 : decide (Int.tmod (IntKind.i64.wrap (eqv own a1 d - d)) 7 ≠ 0) = false := decide_eq_false (by
      have hz := qsz own a1 d;rw [wrap_i64 (n := eqv own a1 d - d) ⟨by omega, by omega⟩];have : Int.tmod (eqv own a1 d - d) 7 = 0 := Int.tmod_eq_zero_of_dvd (Int.dvd_of_emod_eq_zero hz)
      simp [this])
     rw [s12_l2, eD];simp only [e1, e2, Bool.or_self, Bool.or_false, Bool.not_false, cond_true, i0, ik, id0, bindO, e3, e4, cond_false];exact ih (k + 1) hdk'
   rw [loop (eqvL own a1 (s104 a0)) 0 List.drop_zero, ← hE, s12_l2, eD]
   by_cases hD : s104 a0 = []
   ·have hR : R = [] := by
     rw [hD] at h2
     have : s112 (eqvL own a1 []) = some [] := by
      show s112 [] = some [];unfold s112;rw [s112_l1]
     rw [this] at h2;exact (Option.some.inj h2).symm
    have z : decide (((s104 a0).length : Int) = 0) = true := decide_eq_true (by rw [hD]; rfl);rw [z, hR];simp only [Bool.not_true, Bool.false_and, cond_false, bindO, Bool.true_or, cond_true]
    rfl
   ·have hpos : 0 < (s104 a0).length := List.length_pos_iff.2 hD;have z : decide (((s104 a0).length : Int) = 0) = false := decide_eq_false (by omega)
    have fin : s12_l3 a0 a1 (R, 0) (s104 a0) 0 [] = some true := by
     rw [qnu, List.nil_append, s12_l3];show bindO (s64 s71 [carQ a0] ((s104 a0).map noteL) a1) _ = _;rw [qk2 hp hs hd hD h1];have i0 : ixO [(⟨nX, R⟩ : S131)] 0 = some ⟨nX, R⟩ := rfl;have e1 : decide (((([(⟨nX, R⟩ : S131)] : List S131), (0 : Int)).2) = 0) = true := rfl;have e2 : decide (((1 : Nat) : Int) = 1) = true := rfl;have e4 : decide ((⟨nX, R⟩ : S131).Name = (⟨#[120]⟩ : ByteArray)) = true := decide_eq_true rfl;simp only [bindO, decide_true, List.length_singleton, e2, Bool.and_self, Bool.true_and, cond_true, i0, e4, qpg]
    rw [z, hLl];simp only [Bool.not_false, Bool.true_and, Bool.false_or]
    by_cases hg : 0 < m ∧ m < (s104 a0).length
    ·obtain ⟨d0, f1, f2, f3, f4, f5, f6⟩ := hget 0 hg.1;have hmD : (s104 a0)[m]? = some (s104 a0)[m] := List.getElem?_eq_getElem hg.2;have hq := hnx _ hmD;have hmr := hr _ (List.getElem_mem hg.2);have q1 : eqv own a1 (s104 a0)[m] = beg a1 + (s104 a0)[m] - beg own := rfl;have q2 : eqv own a1 d0 = beg a1 + d0 - beg own := rfl;have i0 : ixO (eqvL own a1 (s104 a0)) 0 = some (eqv own a1 d0) := qbd (i := 0) f2;have im : ixO (s104 a0) ((m : Nat) : Int) = some (s104 a0)[m] := qbd hmD;have id0 : ixO (s104 a0) 0 = some d0 := qbd (i := 0) f1;have e1 : decide ((0 : Int) < ((m : Nat) : Int)) = true := decide_eq_true (by omega);have e2 : decide (((m : Nat) : Int) < ((s104 a0).length : Int)) = true := decide_eq_true (by omega)
     have e3 : decide (IntKind.i64.wrap ((IntKind.i64.wrap (eqv own a1 d0 + (s104 a0)[m])) - d0) ≤ nxt a1 - 1) = false := decide_eq_false (by
      rw [wrap_i64 (n := eqv own a1 d0 + (s104 a0)[m]) ⟨by omega, by omega⟩, wrap_i64 ⟨by omega, by omega⟩]
      omega)
     simp only [e1, e2, Bool.and_self, cond_true, i0, im, id0, bindO, e3, Bool.and_false, cond_false];exact fin
    ·have e : ((decide ((0 : Int) < ((m : Nat) : Int))) && (decide (((m : Nat) : Int) < ((s104 a0).length : Int)))) = false := by
      by_cases h0 : 0 < m
      ·rw [decide_eq_false (show ¬ ((m : Nat) : Int) < ((s104 a0).length : Int) by omega), Bool.and_false]
      ·rw [decide_eq_false (show ¬ (0 : Int) < ((m : Nat) : Int) by omega), Bool.false_and]
     simp only [e, cond_false, bindO, Bool.false_and];exact fin
 ·rfl
end Go.Sim
