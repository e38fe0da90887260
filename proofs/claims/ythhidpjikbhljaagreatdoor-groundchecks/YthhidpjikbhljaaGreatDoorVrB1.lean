/-
  What is proved: lemmas and contracts of functions on the way to the law groundChecks (part 10).
-/
import Derived.Test.YthhidpjikbhljaaGreatDoorVrA8
import Derived.Test.YthhidpjikbhljaaGreatDoorVrA9
import Derived.Test.YthhidpjikbhljaaGreatDoorVrA7
import Derived.Test.YthhidpjikbhljaaGreatDoorVrA5
set_option linter.unusedSectionVars false
set_option linter.unusedSimpArgs false
set_option linter.unusedVariables false
set_option linter.unnecessarySimpa false
set_option linter.deprecated false
set_option maxRecDepth 10000
namespace Go.Sim
open Go.Proofs
noncomputable def s1003 (a0 : List S1122) (a1 : List S1124) (a2 : S1026) : Option Bool :=
 (bif ((((!s1015) || (!(s1016 (s1017 a0) 6))) || (!(s1018 (s1019 a1) 6))) || (!(s1020 a2.Movements 6))) || (!(s1021 (s1022 a2.Limits) 6)) then some s1015 else bindO (s1024 (s1017 a0)) fun r1 => bindO (bif decide ((s1023 a0) = r1) then s1026 (s1019 a1) else some default) fun r2 => some ((((decide ((s1023 a0) = r1)) && (decide ((s1025 a1) = r2))) && (decide ((s1027 a2.Movements) = (s1028 a2.Movements)))) && (decide ((s1029 a2.Limits) = (s1030 (s1022 a2.Limits))))))
theorem c1003 (a0 : List S1122) (a1 : List S1124) (a2 : S1026) {R : Bool}  (hb0 : a0.length * 40 ≤ 140737488351232) (hb1 : a1.length * 56 ≤ 140737488351232) (hb2 : a2.Limits.length * 56 ≤ 140737488351232) (hR : s1003 a0 a1 a2 = some R) : Con (EG glT) 3 [G.sl 3 (List.map S1122.c a0), G.sl 5 (List.map S1124.c a1), G.agg [G.sl 5 (List.map S1063.c a2.Limits), G.sl 7 (List.map S1079.c a2.Movements)]] (G.bool R) := by
 unfold s1003 at hR;refine con_of_aw Tryz.func3 rfl rfl fun w0 M0 => ?_;refine len_sl (f := S1122.c) (l := a0) 0 rfl fun hla0 => ?_;refine len_sl (f := S1124.c) (l := a1) 1 rfl fun hla1 => ?_;refine aw_seq ?_;refine aw_region [.p, .p] ?_;refine st rfl rfl (eff_box rfl rfl) rfl ?_;refine st rfl rfl (eff_assigng rfl rfl) rfl ?_;refine st_nil ?_;refine aw_seq ?_;refine aw_seq ?_;refine aw_region [.p, .p, .p, .p, .p, .p, .p, .p, .p, .p, .p, .p, .p, .p, .p, .p, .p, .p, .p, .p, .p, .p, .p, .p, .p, .p, .p] ?_;refine st rfl rfl (eff_call rfl K1015 rfl (c1015) ag_nil) rfl ?_;refine st rfl rfl (eff_not rfl rfl) rfl ?_;refine st rfl rfl (eff_moveg rfl rfl) rfl ?_;refine st_g rfl rfl rfl (gb_bool _ _) (fun h => eff_moveg rfl rfl) rfl ?_;refine st_g rfl rfl rfl (gb_bool _ _) (fun h => eff_call rfl K1017 rfl (c1017 a0 (by first | assumption | omega | (simp [copyL_len]; omega))) (ag_cons (gd h rfl) ag_nil)) rfl ?_;refine st_g rfl rfl rfl (gb_bool _ _) (fun h => eff_call rfl K1016 rfl (c1016 (s1017 a0) 6) (ag_cons (gd h rfl) (ag_cons rfl ag_nil))) rfl ?_;refine st_g rfl rfl rfl (gb_bool _ _) (fun h => eff_not rfl (gd h rfl)) rfl ?_;refine st rfl rfl (eff_or rfl rfl rfl rfl) rfl ?_;refine st rfl rfl (eff_moveg rfl rfl) rfl ?_;refine st_g rfl rfl rfl (gb_bool _ _) (fun h => eff_moveg rfl rfl) rfl ?_;refine st_g rfl rfl rfl (gb_bool _ _) (fun h => eff_call rfl K1019 rfl (c1019 a1 (by first | assumption | omega | (simp [copyL_len]; omega))) (ag_cons (gd h rfl) ag_nil)) rfl ?_;refine st_g rfl rfl rfl (gb_bool _ _) (fun h => eff_call rfl K1018 rfl (c1018 (s1019 a1) 6) (ag_cons (gd h rfl) (ag_cons rfl ag_nil))) rfl ?_;refine st_g rfl rfl rfl (gb_bool _ _) (fun h => eff_not rfl (gd h rfl)) rfl ?_;refine st rfl rfl (eff_or rfl rfl rfl rfl) rfl ?_;refine st rfl rfl (eff_moveg rfl rfl) rfl ?_;refine st_g rfl rfl rfl (gb_bool _ _) (fun h => eff_fieldAddr rfl fl1027_1 rfl) rfl ?_;refine st_g rfl rfl rfl (gb_bool _ _) (fun h => eff_load rfl ty1025 (gd h rfl)) rfl ?_;refine st_g rfl rfl rfl (gb_bool _ _) (fun h => eff_call rfl K1020 rfl (c1020 a2.Movements 6) (ag_cons (gd h rfl) (ag_cons rfl ag_nil))) rfl ?_;refine st_g rfl rfl rfl (gb_bool _ _) (fun h => eff_not rfl (gd h rfl)) rfl ?_;refine st rfl rfl (eff_or rfl rfl rfl rfl) rfl ?_;refine st rfl rfl (eff_moveg rfl rfl) rfl ?_;refine st_g rfl rfl rfl (gb_bool _ _) (fun h => eff_fieldAddr rfl fl1027_0 rfl) rfl ?_;refine st_g rfl rfl rfl (gb_bool _ _) (fun h => eff_load rfl ty1024 (gd h rfl)) rfl ?_;refine st_g rfl rfl rfl (gb_bool _ _) (fun h => eff_call rfl K1022 rfl (c1022 a2.Limits (by first | assumption | omega | (simp [copyL_len]; omega))) (ag_cons (gd h rfl) ag_nil)) rfl ?_;refine st_g rfl rfl rfl (gb_bool _ _) (fun h => eff_call rfl K1021 rfl (c1021 (s1022 a2.Limits) 6) (ag_cons (gd h rfl) (ag_cons rfl ag_nil))) rfl ?_;refine st_g rfl rfl rfl (gb_bool _ _) (fun h => eff_not rfl (gd h rfl)) rfl ?_;refine st rfl rfl (eff_or rfl rfl rfl rfl) rfl ?_;refine st_nil ?_;refine aw_cond _ rfl (fun h1 => ?_) (fun h1 => ?_)
 ·replace h1 : (((((!s1015) || (!(s1016 (s1017 a0) 6))) || (!(s1018 (s1019 a1) 6))) || (!(s1020 a2.Movements 6))) || (!(s1021 (s1022 a2.Limits) 6))) = true := h1;replace hR := condT hR h1;(try simp only [Bool.or_eq_true, Bool.and_eq_true, Bool.or_eq_false_iff, Bool.and_eq_false_iff, Bool.not_eq_true', Bool.not_eq_false', decide_eq_true_eq, decide_eq_false_iff_not] at h1);refine aw_seq ?_;refine aw_region [.p, .p] ?_;refine st rfl rfl (eff_call rfl K1015 rfl (c1015) ag_nil) rfl ?_;refine st rfl rfl (eff_assigng rfl rfl) rfl ?_;refine st_nil ?_;refine aw_ret ?_;obtain rfl := Option.some.inj hR;exact res_c rfl (rv_g rfl)
 ·replace h1 : (((((!s1015) || (!(s1016 (s1017 a0) 6))) || (!(s1018 (s1019 a1) 6))) || (!(s1020 a2.Movements 6))) || (!(s1021 (s1022 a2.Limits) 6))) = false := h1;replace hR := condF hR h1;(try simp only [Bool.or_eq_true, Bool.and_eq_true, Bool.or_eq_false_iff, Bool.and_eq_false_iff, Bool.not_eq_true', Bool.not_eq_false', decide_eq_true_eq, decide_eq_false_iff_not] at h1);refine aw_skip ?_;refine aw_seq ?_;obtain ⟨r1, br1, hR⟩ := bindO_inv hR;obtain ⟨r2, br2, hR⟩ := bindO_inv hR;refine aw_draw [.p, .p, .p, .p, .p, .p, .p, .p, .p, .p, .p, .p, .p, .p, .p, .p, .p, .p, .p, .p, .p, .p, .p, .p, .p, .p, .p, .p, .p, .p, .p, .p, .p, .p] (by kernel_rfl) ?_;refine st rfl rfl (eff_moveg rfl rfl) rfl ?_;refine st rfl rfl (eff_call rfl K1023 rfl (c1023 a0) (ag_cons rfl ag_nil)) rfl ?_;refine st rfl rfl (eff_moveg rfl rfl) rfl ?_;refine st rfl rfl (eff_call rfl K1017 rfl (c1017 a0 (by first | assumption | omega | (simp [copyL_len]; omega))) (ag_cons rfl ag_nil)) rfl ?_;refine st rfl rfl (eff_call rfl K1024 rfl (c1024 (s1017 a0) br1) (ag_cons rfl ag_nil)) rfl ?_;refine st rfl rfl (eff_eql rfl rfl rfl) rfl ?_;refine st rfl rfl (eff_moveg rfl rfl) rfl ?_;refine st_g rfl rfl rfl (gb_bool _ _) (fun h => eff_moveg rfl rfl) rfl ?_;refine st_g rfl rfl rfl (gb_bool _ _) (fun h => eff_call rfl K1025 rfl (c1025 a1) (ag_cons (gd h rfl) ag_nil)) rfl ?_;refine st_g rfl rfl rfl (gb_bool _ _) (fun h => eff_moveg rfl rfl) rfl ?_;refine st_g rfl rfl rfl (gb_bool _ _) (fun h => eff_call rfl K1019 rfl (c1019 a1 (by first | assumption | omega | (simp [copyL_len]; omega))) (ag_cons (gd h rfl) ag_nil)) rfl ?_;refine st_g rfl rfl rfl (gb_bool _ _) (fun h => eff_call rfl K1026 rfl (c1026 (s1019 a1) (condT1 br2 h)) (ag_cons (gd h rfl) ag_nil)) rfl ?_;refine st_g rfl rfl rfl (gb_bool _ _) (fun h => eff_eql rfl (gd h rfl) (gd h rfl)) rfl ?_;refine st rfl rfl (eff_and rfl rfl rfl rfl) rfl ?_;refine st rfl rfl (eff_moveg rfl rfl) rfl ?_;refine st_g rfl rfl rfl (gb_bool _ _) (fun h => eff_fieldAddr rfl fl1027_1 rfl) rfl ?_;refine st_g rfl rfl rfl (gb_bool _ _) (fun h => eff_load rfl ty1025 (gd h rfl)) rfl ?_;refine st_g rfl rfl rfl (gb_bool _ _) (fun h => eff_call rfl K1027 rfl (c1027 a2.Movements) (ag_cons (gd h rfl) ag_nil)) rfl ?_;refine st_g rfl rfl rfl (gb_bool _ _) (fun h => eff_fieldAddr rfl fl1027_1 rfl) rfl ?_;refine st_g rfl rfl rfl (gb_bool _ _) (fun h => eff_load rfl ty1025 (gd h rfl)) rfl ?_;refine st_g rfl rfl rfl (gb_bool _ _) (fun h => eff_call rfl K1028 rfl (c1028 a2.Movements) (ag_cons (gd h rfl) ag_nil)) rfl ?_;refine st_g rfl rfl rfl (gb_bool _ _) (fun h => eff_eql rfl (gd h rfl) (gd h rfl)) rfl ?_;refine st rfl rfl (eff_and rfl rfl rfl rfl) rfl ?_;refine st rfl rfl (eff_moveg rfl rfl) rfl ?_;refine st_g rfl rfl rfl (gb_bool _ _) (fun h => eff_fieldAddr rfl fl1027_0 rfl) rfl ?_;refine st_g rfl rfl rfl (gb_bool _ _) (fun h => eff_load rfl ty1024 (gd h rfl)) rfl ?_;refine st_g rfl rfl rfl (gb_bool _ _) (fun h => eff_call rfl K1029 rfl (c1029 a2.Limits) (ag_cons (gd h rfl) ag_nil)) rfl ?_;refine st_g rfl rfl rfl (gb_bool _ _) (fun h => eff_fieldAddr rfl fl1027_0 rfl) rfl ?_;refine st_g rfl rfl rfl (gb_bool _ _) (fun h => eff_load rfl ty1024 (gd h rfl)) rfl ?_;refine st_g rfl rfl rfl (gb_bool _ _) (fun h => eff_call rfl K1022 rfl (c1022 a2.Limits (by first | assumption | omega | (simp [copyL_len]; omega))) (ag_cons (gd h rfl) ag_nil)) rfl ?_;refine st_g rfl rfl rfl (gb_bool _ _) (fun h => eff_call rfl K1030 rfl (c1030 (s1022 a2.Limits)) (ag_cons (gd h rfl) ag_nil)) rfl ?_;refine st_g rfl rfl rfl (gb_bool _ _) (fun h => eff_eql rfl (gd h rfl) (gd h rfl)) rfl ?_;refine st rfl rfl (eff_and rfl rfl rfl rfl) rfl ?_;refine st rfl rfl (eff_assigng rfl rfl) rfl ?_;refine st_nil ?_;refine aw_ret ?_;obtain rfl := Option.some.inj hR;exact res_c rfl (rv_g rfl)
theorem f89_k : ∀ (l : List Int) (k k' : Nat), s89_l1 l k = s89_l1 l k'
 | [], _, _ => rfl
 | x :: l, k, k' => by simp only [s89_l1]; rw [f89_k l (k + 1) (k' + 1)]
theorem s89_nil : s89 [] = 0 := rfl
theorem s89_cons (x : Int) (l : List Int) : s89 (x :: l) = if x = 0 then s89 l else x := by
 unfold s89;simp only [s89_l1];rw [f89_k l (0 + 1) 0]
 by_cases h : x = 0 <;> simp [h]
theorem f1085_k : ∀ (l : List Int) (k : Nat), s1085_l1 l k = s89_l1 l k
 | [], _ => rfl
 | x :: l, k => by simp only [s1085_l1, s89_l1]; rw [f1085_k l (k + 1)]
theorem s1085_eq (l : List Int) : s1085 l = s89 l := f1085_k l 0
theorem s1088_eq (a b c : Int) : s1088 a b c = s90 a b c := rfl
theorem s1098_eq (a : Int) : s1098 a = s96 a := rfl
theorem s1086_ite (b : Bool) (e : Int) : s1086 b e = if b = true then e else 0 := by cases b <;> rfl
theorem decode_lo {s : ByteArray} {i : Nat} (h : (s.get! i).toNat < 128) : Utf8.decode s i = ((s.get! i).toNat, 1) := by
 unfold Utf8.decode
 simp [h]
theorem decode_hi {s : ByteArray} {i : Nat} (h : 128 ≤ (s.get! i).toNat) : 128 ≤ (Utf8.decode s i).1 := by
 unfold Utf8.decode;simp only [Nat.add_zero];rw [if_neg (by omega)]
 repeat' split
 all_goals first | assumption | (simp [Utf8.runeError]; done) | (rename_i h2; simp only [Bool.and_eq_true, decide_eq_true_eq] at h2; have h3 := h2.1; dsimp only; omega)
theorem get_toList {s : ByteArray} {i : Nat} (h : i < s.data.toList.length) : s.get! i = s.data.toList[i] := by
 have h' : i < s.data.size := by simpa using h
 show s.data[i]! = _;rw [getElem!_pos s.data i h']
 simp
theorem name_loop (s : ByteArray) : ∀ n pos, s.size ≤ pos + n → s147_l1 (runesF s n pos) = s91_l1 (s.data.toList.drop pos) pos := by
 intro n
 induction n with
 | zero =>
  intro pos h;rw [List.drop_eq_nil_of_le (by simpa using h)]; rfl
 | succ n ih =>
  intro pos h;unfold runesF
  split
  ·rename_i hp
   have hl : pos < s.data.toList.length := by simpa using hp
   rw [List.drop_eq_getElem_cons hl, s147_l1, s91_l1, ← get_toList hl]
   rcases Nat.lt_or_ge (s.get! pos).toNat 128 with hb | hb
   ·rw [decode_lo hb, ih (pos + 1) (by omega)];have e1 : (decide (((pos : Nat) : Int) = 0)) = decide ((pos : Int) = 0) := rfl;dsimp only;rw [Bool.or_comm ((decide ((65 : Int) ≤ _)) && _)]
   ·have hb2 := decode_hi hb
    have c1 : (!(((decide ((65 : Int) ≤ ((Utf8.decode s pos).1 : Int))) && (decide (((Utf8.decode s pos).1 : Int) ≤ 90))) || ((decide ((97 : Int) ≤ ((Utf8.decode s pos).1 : Int))) && (decide (((Utf8.decode s pos).1 : Int) ≤ 122))))) = true := by
     simp; omega
    have c2 : (!(((decide ((97 : Int) ≤ ((s.get! pos).toNat : Int))) && (decide (((s.get! pos).toNat : Int) ≤ 122))) || ((decide ((65 : Int) ≤ ((s.get! pos).toNat : Int))) && (decide (((s.get! pos).toNat : Int) ≤ 90))))) = true := by
     simp; omega
    dsimp only;rw [c1, c2]
    have d1 : (decide (((Utf8.decode s pos).1 : Int) ≠ 95) && (decide (((Utf8.decode s pos).1 : Int) < 48) || decide (57 < ((Utf8.decode s pos).1 : Int)))) = true := by simp; omega
    have d2 : (decide (((s.get! pos).toNat : Int) ≠ 95) && (decide (((s.get! pos).toNat : Int) < 48) || decide (57 < ((s.get! pos).toNat : Int)))) = true := by simp; omega
    rw [d1, d2]; simp
  ·rename_i hp
   rw [List.drop_eq_nil_of_le (by simpa using hp)]; rfl
theorem name_eq (s : ByteArray) : s147 s = s91 s := by
 unfold s147 s91 runes;rw [name_loop s _ 0 (by omega)]; rfl
theorem s1089_eq (s : ByteArray) : s1089 s = s1093 s := by
 unfold s1089 s1093; rw [name_eq, s1086_ite, cond_eq_ite]
theorem own_l1 (l : List S1122) (k : Nat) (x : List S1122) : s1017_l1 l k x = x ++ l := by
 induction l generalizing k x with
 | nil => simp [s1017_l1]
 | cons y l ih => simp [s1017_l1, ih]
theorem s1017_eq (l : List S1122) : s1017 l = l := by unfold s1017; rw [own_l1]; rfl
theorem crew_l1 (l : List S1124) (k : Nat) (x : List S1124) : s1019_l1 l k x = x ++ l := by
 induction l generalizing k x with
 | nil => simp [s1019_l1]
 | cons y l ih => simp [s1019_l1, ih]
theorem s1019_eq (l : List S1124) : s1019 l = l := by unfold s1019; rw [crew_l1]; rfl
theorem lim_l1 (l : List S1063) (k : Nat) (x : List S1063) : s1022_l1 l k x = x ++ l := by
 induction l generalizing k x with
 | nil => simp [s1022_l1]
 | cons y l ih => simp [s1022_l1, ih]
theorem s1022_eq (l : List S1063) : s1022 l = l := by unfold s1022; rw [lim_l1]; rfl
theorem ixO_at {α : Type} {l : List α} {i : Nat} (h : i < l.length) : ixO l (i : Int) = some l[i] := by
 unfold ixO; rw [decide_eq_true (by omega), cond_true]; simp [h]
theorem seek {α β : Type} {l : List α} {p : α → Bool} {e : β} {b : Option β} (F : Nat → Int → Option β) (h0 : ∀ x, F 0 x = b)
  (h1 : ∀ n x, F (n + 1) x = bindO (ixO l x) fun y => bif p y then some e else F n (x + 1)) : ∀ n i, i + n ≤ l.length →
  F n (i : Int) = bif ((l.drop i).take n).any p then some e else b
 | 0, i, _ => by rw [h0]; rfl
 | n + 1, i, h => by
  have hi : i < l.length := by omega
  rw [h1, ixO_at hi, List.drop_eq_getElem_cons hi, List.take_succ_cons, List.any_cons];have := seek F h0 h1 n (i + 1) (by omega);simp only [bindO];rw [show ((i : Int) + 1) = ((i + 1 : Nat) : Int) by push_cast; rfl, this]
  cases p l[i] <;> simp
theorem index_k {α : Type} (p : α → Bool) (F : List α → Nat → Int) (h0 : ∀ k, F [] k = -1) (h1 : ∀ y t k, F (y :: t) k = bif p y then ((k : Nat) : Int) else F t (k + 1)) :
  ∀ l k, decide (0 ≤ F l k) = l.any p
 | [], k => by rw [h0]; rfl
 | y :: t, k => by
  rw [h1, List.any_cons]
  cases p y with
  | true => simp
  | false => simpa using index_k p F h0 h1 t (k + 1)
theorem s1083_eq (l : List S1122) (p : S1122 → Bool) : s1083 l p = l.any p :=
 index_k p (s1136_l1 p) (fun _ => rfl) (fun _ _ _ => rfl) l 0
theorem s1096_eq (l : List S1124) (p : S1124 → Bool) : s1096 l p = l.any p :=
 index_k p (s1137_l1 p) (fun _ => rfl) (fun _ _ _ => rfl) l 0
theorem s88_eq (l : List ByteArray) (a : ByteArray) : s88 l a = l.any fun x => decide (a = x) :=
 index_k (fun x => decide (a = x)) (s148_l1 a) (fun _ => rfl) (fun _ _ _ => rfl) l 0
theorem stands_l (a : List S1122) : ∀ t k, a.drop k = t → s1024_l1 a t k = some (s1081_l1 a s1082 t k)
 | [], k, _ => rfl
 | y :: t, k, h => by
  have hk : k < a.length := by
   rcases Nat.lt_or_ge k a.length with h1 | h1
   ·exact h1
   ·rw [List.drop_eq_nil_of_le h1] at h; cases h
  have ht : a.drop (k + 1) = t := by rw [← List.drop_drop, h]; rfl
  rw [s1024_l1, s1081_l1];have h3 := seek (l := a) (p := fun z => decide (z.Name = y.Name)) (s1024_l2 (fun k_ => s1024_l1 a t k_) a k y) (b := bif decide ((s89 [(s1092 y.Size), (s1093 y.Terminal)]) ≠ 0) then some (s89 [(s1092 y.Size), (s1093 y.Terminal)]) else s1024_l1 a t (k + 1)) (e := 9) (fun _ => rfl) (fun _ _ => rfl) k 0 (by omega);rw [show (((k : Nat) : Int) - 0).toNat = k by omega, show (0 : Int) = ((0 : Nat) : Int) from rfl, h3, stands_l a t (k + 1) ht]
  have h4 : s1082 y (a.take k) = if s91 y.Name = false then 8 else if (a.take k).any (fun z => decide (z.Name = y.Name)) = true then 9 else s89 [(s1092 y.Size), (s1093 y.Terminal)] := by
   unfold s1082;rw [s1085_eq, s1083_eq, s1086_ite, s1086_ite, name_eq, s1089_eq, s1088_eq];simp only [s89_cons, s89_nil, s1084, s1092]
   cases s91 y.Name <;> simp
   split <;> simp_all
  rw [show Int.toNat ((k : Nat) : Int) = k by omega, h4];generalize s89 [(s1092 y.Size), (s1093 y.Terminal)] = E
  cases hn : s91 y.Name
  ·simp
  ·cases ha : (a.take k).any (fun z => decide (z.Name = y.Name)) <;> simp [ha]
   by_cases hE : E = 0 <;> simp [hE]
theorem stands_eq (a : List S1122) : s1024 a = some (s1023 a) := by
 unfold s1024 s1023 s1081;rw [stands_l a a 0 rfl]
 cases decide (32 < (List.length a : Int)) <;> rfl
theorem turns_l (a : List S1124) : ∀ t k, a.drop k = t → s1026_l1 a t k = some (s1094_l1 a s1095 t k)
 | [], k, _ => rfl
 | y :: t, k, h => by
  have hk : k < a.length := by
   rcases Nat.lt_or_ge k a.length with h1 | h1
   ·exact h1
   ·rw [List.drop_eq_nil_of_le h1] at h; cases h
  have ht : a.drop (k + 1) = t := by rw [← List.drop_drop, h]; rfl
  rw [s1026_l1, s1094_l1];have h3 := seek (l := a) (p := fun z => decide (z.Name = y.Name)) (s1026_l2 (fun k_ => s1026_l1 a t k_) a k y) (b := s1026_l2 (fun k_ => s1026_l1 a t k_) a k y 0 0) (e := 9) (fun _ => rfl) (fun _ _ => rfl) k 0 (by omega);rw [show (((k : Nat) : Int) - 0).toNat = k by omega, show s1026_l2 (fun k_ => s1026_l1 a t k_) a k y k 0 = s1026_l2 (fun k_ => s1026_l1 a t k_) a k y k ((0 : Nat) : Int) from rfl, h3]
  have h4 : s1095 y (a.take k) = if s91 y.Name = false then 8 else if (a.take k).any (fun z => decide (z.Name = y.Name)) = true then 9 else s89 [s96 y.Start, s96 y.End, if y.End < y.Start then 11 else 0, (s1092 y.Size), (s1093 y.Terminal)] := by
   unfold s1095;rw [s1085_eq, s1096_eq, s1086_ite, s1086_ite, s1086_ite, name_eq, s1089_eq, s1088_eq, s1098_eq, s1098_eq];simp only [s89_cons, s89_nil, s1097, s1092, decide_eq_true_eq]
   cases s91 y.Name <;> simp
   split <;> simp_all
  have h5 : s1026_l2 (fun k_ => s1026_l1 a t k_) a k y 0 0 = if s89 [s96 y.Start, s96 y.End, if y.End < y.Start then 11 else 0, (s1092 y.Size), (s1093 y.Terminal)] = 0 then s1026_l1 a t (k + 1) else some (s89 [s96 y.Start, s96 y.End, if y.End < y.Start then 11 else 0, (s1092 y.Size), (s1093 y.Terminal)]) := by
   unfold s1026_l2 s1026_j1;simp only [s89_cons, s89_nil]
   by_cases c1 : s96 y.Start = 0 <;> by_cases c2 : s96 y.End = 0 <;> by_cases c3 : y.End < y.Start <;> by_cases c4 : s1092 y.Size = 0 <;> by_cases c5 : s1093 y.Terminal = 0 <;> simp [c1, c2, c3, c4, c5]
  rw [show Int.toNat ((k : Nat) : Int) = k by omega, h4, h5, turns_l a t (k + 1) ht];generalize s89 [s96 y.Start, s96 y.End, if y.End < y.Start then 11 else 0, (s1092 y.Size), (s1093 y.Terminal)] = E
  cases hn : s91 y.Name
  ·simp
  ·cases ha : (a.take k).any (fun z => decide (z.Name = y.Name)) <;> simp [ha]
   by_cases hE : E = 0 <;> simp [hE]
theorem turns_eq (a : List S1124) : s1026 a = some (s1025 a) := by
 unfold s1026 s1025 s1094;rw [turns_l a a 0 rfl]
 cases decide (256 < (List.length a : Int)) <;> rfl
theorem movs_l (a : List S1079) : ∀ t k, s1028_l1 t k = s1099_l1 a s1100 t k
 | [], k => rfl
 | y :: t, k => by
  rw [s1028_l1, s1099_l1, ← movs_l a t (k + 1)];unfold s1100 s1028_j2 s1028_j1;rw [s1085_eq, s1086_ite, s1086_ite, name_eq, s1089_eq, s1088_eq, s1088_eq, s1088_eq, s1098_eq];simp only [s89_cons, s89_nil, s1092]
  by_cases c1 : s96 y.Moment = 0 <;> by_cases c2 : y.Kind = ⟨#[65]⟩ <;> by_cases c3 : y.Kind = ⟨#[68]⟩ <;> by_cases c4 : s1093 y.Terminal = 0 <;> by_cases c5 : s90 y.Seats 0 999 = 0 <;> by_cases c6 : s90 y.Size 1 9 = 0 <;> by_cases c7 : s90 y.Noise 0 99 = 0 <;> by_cases c8 : s91 y.Name = true <;> simp [c1, c2, c3, c4, c5, c6, c7, c8]
theorem movs_eq (a : List S1079) : s1028 a = s1027 a := by
 unfold s1028 s1027 s1099;rw [movs_l a a 0]
theorem seats_l (a : List S1063) : ∀ t k, s1030_l1 t k = s1101_l1 a s1102 t k
 | [], k => rfl
 | y :: t, k => by
  rw [s1030_l1, s1101_l1, ← seats_l a t (k + 1)];unfold s1102 s1030_j1;rw [s1085_eq, s88_eq, s1086_ite, s1089_eq, s1088_eq, s1088_eq, s1088_eq];simp only [s89_cons, s89_nil, List.any_cons, List.any_nil]
  by_cases c1 : s1093 y.Terminal = 0 <;> by_cases c2 : y.Kind = ⟨#[65]⟩ <;> by_cases c3 : y.Kind = ⟨#[68]⟩ <;> by_cases c4 : y.Kind = ⟨#[84]⟩ <;> by_cases c5 : s90 y.Length 1 1440 = 0 <;> by_cases c6 : s90 y.Step 1 y.Length = 0 <;> by_cases c7 : s90 y.Most 0 999999999 = 0 <;> simp [c1, c2, c3, c4, c5, c6, c7]
theorem seats_eq (a : List S1063) : s1030 a = s1029 a := by
 unfold s1030 s1029 s1101;rw [seats_l a a 0]
theorem s1003_true (a0 : List S1122) (a1 : List S1124) (a2 : S1026) : s1003 a0 a1 a2 = some true := by
 unfold s1003;rw [s1015_eq, stands_eq, turns_eq, movs_eq, seats_eq, s1017_eq, s1019_eq, s1022_eq]
 simp [bindO]
end Go.Sim
