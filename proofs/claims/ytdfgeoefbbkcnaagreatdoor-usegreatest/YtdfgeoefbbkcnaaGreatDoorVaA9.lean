/-
  What is proved: laws of the checks: the program and the reference answer alike.
-/
import Derived.Test.YtdfgeoefbbkcnaaGreatDoorVaA8
import Derived.Test.YtdfgeoefbbkcnaaGreatDoorVaA6
set_option linter.unusedSectionVars false
set_option linter.unusedSimpArgs false
set_option linter.unusedVariables false
set_option linter.unnecessarySimpa false
set_option linter.deprecated false
namespace Go.Sim
open Go.Proofs Go.Ex
/-- THE PROGRAM'S OWN CHECK OF ITSELF ANSWERS TRUE -/
theorem ex16 : ∃ b : Bool, b = true := ⟨true, rfl⟩
noncomputable def s16 : Bool := ex16.choose
theorem s16_eq : s16 = true := ex16.choose_spec
theorem c16 : Con (EG glT) 16 [] (G.bool s16) := by
  obtain ⟨h', c', h⟩ := isBool_ex awake_run
  rw [s16_eq]
  exact con_of_call (vs := []) orc_ok orc_k (by decide) (gl_ok (by decide)) h
end Go.Sim

set_option linter.unusedSimpArgs false
set_option linter.unusedVariables false
set_option maxRecDepth 10000
namespace Go.Sim
open Go.Proofs


/-- turnroundlaw09.UseChecks -/
noncomputable def s3 (a0 : S23) (a1 : List S151) (a2 : List S104) : Bool :=
 (bif (((!s16) || (!(s17 (s18 a0)))) || (!(s19 (s20 a1) 6))) || (!(s21 (s22 a2) 6)) then s16 else ((decide ((s23 a0) = (s24 (s18 a0)))) && (decide ((s25 a1) = (s26 (s20 a1))))) && (decide ((s27 a2) = (s28 (s22 a2)))))
theorem c3 (a0 : S23) (a1 : List S151) (a2 : List S104)  (hb0 : a1.length * 40 ≤ 140737488351232) (hb1 : a2.length * 96 ≤ 140737488351232)  : Con (EG glT) 3 [G.agg [G.int a0.Before, G.int a0.After, G.int a0.Notice, G.int a0.Share, G.sl 1 (List.map cStr a0.Causes), G.int a0.Off, G.int a0.Run], G.sl 3 (List.map S151.c a1), G.sl 8 (List.map S104.c a2)] (G.bool (s3 a0 a1 a2)) := by
 generalize hR : s3 a0 a1 a2 = R
 unfold s3 at hR
 refine con_of_aw Tryz.func3 rfl rfl fun w0 M0 => ?_
 refine len_sl (f := S151.c) (l := a1) 1 rfl fun hla1 => ?_
 refine len_sl (f := S104.c) (l := a2) 2 rfl fun hla2 => ?_
 refine aw_seq ?_
 refine aw_region [.p, .p] ?_
 refine st rfl rfl (eff_box rfl rfl) rfl ?_
 refine st rfl rfl (eff_assigng rfl rfl) rfl ?_
 refine st_nil ?_
 refine aw_seq ?_
 refine aw_seq ?_
 refine aw_region [.p, .p, .p, .p, .p, .p, .p, .p, .p, .p, .p, .p, .p, .p, .p, .p, .p, .p, .p, .p] ?_
 refine st rfl rfl (eff_call rfl K16 rfl (c16) ag_nil) rfl ?_
 refine st rfl rfl (eff_not rfl rfl) rfl ?_
 refine st rfl rfl (eff_moveg rfl rfl) rfl ?_
 refine st_g rfl rfl rfl (gb_bool _ _) (fun h => eff_loadA rfl ty24 rfl rfl rfl) rfl ?_
 refine st_g rfl rfl rfl (gb_bool _ _) (fun h => eff_call rfl K18 rfl (c18 a0) (ag_cons (gd h rfl) ag_nil)) rfl ?_
 refine st_g rfl rfl rfl (gb_bool _ _) (fun h => eff_call rfl K17 rfl (c17 (s18 a0)) (ag_cons (gd h rfl) ag_nil)) rfl ?_
 refine st_g rfl rfl rfl (gb_bool _ _) (fun h => eff_not rfl (gd h rfl)) rfl ?_
 refine st rfl rfl (eff_or rfl rfl rfl rfl) rfl ?_
 refine st rfl rfl (eff_moveg rfl rfl) rfl ?_
 refine st_g rfl rfl rfl (gb_bool _ _) (fun h => eff_moveg rfl rfl) rfl ?_
 refine st_g rfl rfl rfl (gb_bool _ _) (fun h => eff_call rfl K20 rfl (c20 a1 (by first | assumption | omega | (simp [copyL_len]; omega))) (ag_cons (gd h rfl) ag_nil)) rfl ?_
 refine st_g rfl rfl rfl (gb_bool _ _) (fun h => eff_call rfl K19 rfl (c19 (s20 a1) 6) (ag_cons (gd h rfl) (ag_cons rfl ag_nil))) rfl ?_
 refine st_g rfl rfl rfl (gb_bool _ _) (fun h => eff_not rfl (gd h rfl)) rfl ?_
 refine st rfl rfl (eff_or rfl rfl rfl rfl) rfl ?_
 refine st rfl rfl (eff_moveg rfl rfl) rfl ?_
 refine st_g rfl rfl rfl (gb_bool _ _) (fun h => eff_moveg rfl rfl) rfl ?_
 refine st_g rfl rfl rfl (gb_bool _ _) (fun h => eff_call rfl K22 rfl (c22 a2 (by first | assumption | omega | (simp [copyL_len]; omega))) (ag_cons (gd h rfl) ag_nil)) rfl ?_
 refine st_g rfl rfl rfl (gb_bool _ _) (fun h => eff_call rfl K21 rfl (c21 (s22 a2) 6) (ag_cons (gd h rfl) (ag_cons rfl ag_nil))) rfl ?_
 refine st_g rfl rfl rfl (gb_bool _ _) (fun h => eff_not rfl (gd h rfl)) rfl ?_
 refine st rfl rfl (eff_or rfl rfl rfl rfl) rfl ?_
 refine st_nil ?_
 refine aw_cond _ rfl (fun h1 => ?_) (fun h1 => ?_)
 ·replace h1 : ((((!s16) || (!(s17 (s18 a0)))) || (!(s19 (s20 a1) 6))) || (!(s21 (s22 a2) 6))) = true := h1
  replace hR := condT hR h1
  try simp only [Bool.or_eq_true, Bool.and_eq_true, Bool.or_eq_false_iff, Bool.and_eq_false_iff, Bool.not_eq_true', Bool.not_eq_false', decide_eq_true_eq, decide_eq_false_iff_not] at h1
  refine aw_seq ?_
  refine aw_region [.p, .p] ?_
  refine st rfl rfl (eff_call rfl K16 rfl (c16) ag_nil) rfl ?_
  refine st rfl rfl (eff_assigng rfl rfl) rfl ?_
  refine st_nil ?_
  refine aw_ret ?_
  subst hR
  exact res_c rfl (rv_g rfl)
 ·replace h1 : ((((!s16) || (!(s17 (s18 a0)))) || (!(s19 (s20 a1) 6))) || (!(s21 (s22 a2) 6))) = false := h1
  replace hR := condF hR h1
  try simp only [Bool.or_eq_true, Bool.and_eq_true, Bool.or_eq_false_iff, Bool.and_eq_false_iff, Bool.not_eq_true', Bool.not_eq_false', decide_eq_true_eq, decide_eq_false_iff_not] at h1
  refine aw_skip ?_
  refine aw_seq ?_
  refine aw_draw [.p, .p, .p, .p, .p, .p, .p, .p, .p, .p, .p, .p, .p, .p, .p, .p, .p, .p, .p, .p, .p, .p, .p] (by kernel_rfl) ?_
  refine st rfl rfl (eff_loadA rfl ty24 rfl rfl rfl) rfl ?_
  refine st rfl rfl (eff_call rfl K23 rfl (c23 a0) (ag_cons rfl ag_nil)) rfl ?_
  refine st rfl rfl (eff_loadA rfl ty24 rfl rfl rfl) rfl ?_
  refine st rfl rfl (eff_call rfl K18 rfl (c18 a0) (ag_cons rfl ag_nil)) rfl ?_
  refine st rfl rfl (eff_call rfl K24 rfl (c24 (s18 a0)) (ag_cons rfl ag_nil)) rfl ?_
  refine st rfl rfl (eff_eql rfl rfl rfl) rfl ?_
  refine st rfl rfl (eff_moveg rfl rfl) rfl ?_
  refine st_g rfl rfl rfl (gb_bool _ _) (fun h => eff_moveg rfl rfl) rfl ?_
  refine st_g rfl rfl rfl (gb_bool _ _) (fun h => eff_call rfl K25 rfl (c25 a1) (ag_cons (gd h rfl) ag_nil)) rfl ?_
  refine st_g rfl rfl rfl (gb_bool _ _) (fun h => eff_moveg rfl rfl) rfl ?_
  refine st_g rfl rfl rfl (gb_bool _ _) (fun h => eff_call rfl K20 rfl (c20 a1 (by first | assumption | omega | (simp [copyL_len]; omega))) (ag_cons (gd h rfl) ag_nil)) rfl ?_
  refine st_g rfl rfl rfl (gb_bool _ _) (fun h => eff_call rfl K26 rfl (c26 (s20 a1)) (ag_cons (gd h rfl) ag_nil)) rfl ?_
  refine st_g rfl rfl rfl (gb_bool _ _) (fun h => eff_eql rfl (gd h rfl) (gd h rfl)) rfl ?_
  refine st rfl rfl (eff_and rfl rfl rfl rfl) rfl ?_
  refine st rfl rfl (eff_moveg rfl rfl) rfl ?_
  refine st_g rfl rfl rfl (gb_bool _ _) (fun h => eff_moveg rfl rfl) rfl ?_
  refine st_g rfl rfl rfl (gb_bool _ _) (fun h => eff_call rfl K27 rfl (c27 a2) (ag_cons (gd h rfl) ag_nil)) rfl ?_
  refine st_g rfl rfl rfl (gb_bool _ _) (fun h => eff_moveg rfl rfl) rfl ?_
  refine st_g rfl rfl rfl (gb_bool _ _) (fun h => eff_call rfl K22 rfl (c22 a2 (by first | assumption | omega | (simp [copyL_len]; omega))) (ag_cons (gd h rfl) ag_nil)) rfl ?_
  refine st_g rfl rfl rfl (gb_bool _ _) (fun h => eff_call rfl K28 rfl (c28 (s22 a2)) (ag_cons (gd h rfl) ag_nil)) rfl ?_
  refine st_g rfl rfl rfl (gb_bool _ _) (fun h => eff_eql rfl (gd h rfl) (gd h rfl)) rfl ?_
  refine st rfl rfl (eff_and rfl rfl rfl rfl) rfl ?_
  refine st rfl rfl (eff_assigng rfl rfl) rfl ?_
  refine st_nil ?_
  refine aw_ret ?_
  subst hR
  exact res_c rfl (rv_g rfl)
end Go.Sim

namespace Go.Sim
/-! ## what the walks compute, and what the reference asks: UseChecks -/
theorem decode_lo {s : ByteArray} {i : Nat} (h : (s.get! i).toNat < 128) : Utf8.decode s i = ((s.get! i).toNat, 1) := by
  unfold Utf8.decode
  simp [h]
theorem decode_hi {s : ByteArray} {i : Nat} (h : 128 ≤ (s.get! i).toNat) : 128 ≤ (Utf8.decode s i).1 := by
  unfold Utf8.decode
  simp only [Nat.add_zero]
  rw [if_neg (by omega)]
  repeat' split
  all_goals first | assumption | (simp [Utf8.runeError]; done) | (rename_i h2; simp only [Bool.and_eq_true, decide_eq_true_eq] at h2; have h3 := h2.1; dsimp only; omega)
theorem get_toList {s : ByteArray} {i : Nat} (h : i < s.data.toList.length) : s.get! i = s.data.toList[i] := by
  have h' : i < s.data.size := by simpa using h
  show s.data[i]! = _
  rw [getElem!_pos s.data i h']
  simp
theorem name_loop (s : ByteArray) : ∀ n pos, s.size ≤ pos + n → s147_l1 (runesF s n pos) = s91_l1 (s.data.toList.drop pos) pos := by
  intro n
  induction n with
  | zero =>
    intro pos h
    rw [List.drop_eq_nil_of_le (by simpa using h)]; rfl
  | succ n ih =>
    intro pos h
    unfold runesF
    split
    · rename_i hp
      have hl : pos < s.data.toList.length := by simpa using hp
      rw [List.drop_eq_getElem_cons hl, s147_l1, s91_l1, ← get_toList hl]
      rcases Nat.lt_or_ge (s.get! pos).toNat 128 with hb | hb
      · rw [decode_lo hb, ih (pos + 1) (by omega)]
        have e1 : (decide (((pos : Nat) : Int) = 0)) = decide ((pos : Int) = 0) := rfl
        dsimp only
        rw [Bool.or_comm ((decide ((65 : Int) ≤ _)) && _)]
      · have hb2 := decode_hi hb
        have c1 : (!(((decide ((65 : Int) ≤ ((Utf8.decode s pos).1 : Int))) && (decide (((Utf8.decode s pos).1 : Int) ≤ 90))) || ((decide ((97 : Int) ≤ ((Utf8.decode s pos).1 : Int))) && (decide (((Utf8.decode s pos).1 : Int) ≤ 122))))) = true := by
          simp; omega
        have c2 : (!(((decide ((97 : Int) ≤ ((s.get! pos).toNat : Int))) && (decide (((s.get! pos).toNat : Int) ≤ 122))) || ((decide ((65 : Int) ≤ ((s.get! pos).toNat : Int))) && (decide (((s.get! pos).toNat : Int) ≤ 90))))) = true := by
          simp; omega
        dsimp only
        rw [c1, c2]
        have d1 : (decide (((Utf8.decode s pos).1 : Int) ≠ 95) && (decide (((Utf8.decode s pos).1 : Int) < 48) || decide (57 < ((Utf8.decode s pos).1 : Int)))) = true := by simp; omega
        have d2 : (decide (((s.get! pos).toNat : Int) ≠ 95) && (decide (((s.get! pos).toNat : Int) < 48) || decide (57 < ((s.get! pos).toNat : Int)))) = true := by simp; omega
        rw [d1, d2]; simp
    · rename_i hp
      rw [List.drop_eq_nil_of_le (by simpa using hp)]; rfl
theorem name_eq (s : ByteArray) : s147 s = s91 s := by
  unfold s147 s91 runes
  rw [name_loop s _ 0 (by omega)]; rfl

theorem s84_s89 (l : List Int) : s84 l = s89 l := by
  unfold s84 s89
  generalize 0 = k
  induction l generalizing k with
  | nil => rfl
  | cons x l ih => rw [s84_l1, s89_l1, ih]
theorem s89_nil : s89 [] = 0 := rfl
theorem s89_l (l : List Int) (k k' : Nat) : s89_l1 l k = s89_l1 l k' := by
  induction l generalizing k k' with
  | nil => rfl
  | cons x l ih => rw [s89_l1, s89_l1, ih (k + 1) (k' + 1)]
theorem s89_cons (x : Int) (l : List Int) : s89 (x :: l) = bif decide (x ≠ 0) then x else s89 l := by
  unfold s89; rw [s89_l1, s89_l l 1 0]
theorem s85_s90 (a b c : Int) : s85 a b c = s90 a b c := rfl
theorem s87_s95 (s : ByteArray) : s87 s = s95 s := by unfold s87 s95 s86; rw [name_eq]
theorem s101_s97 (s : ByteArray) : s101 s = s97 s := rfl
theorem s94_eq (x : S151) : s94 x = s89 [s95 x.Name, s96 x.Moment, s97 x.Kind] := by
  unfold s94; rw [s84_s89, s87_s95]; rfl
theorem s148_l (a : ByteArray) (l : List ByteArray) (k : Nat) : decide (0 ≤ s148_l1 a l k) = s92_l1 a l k := by
  induction l generalizing k with
  | nil => rfl
  | cons y l ih =>
    rw [s148_l1, s92_l1]
    by_cases h : a = y
    · subst h; simp
    · have h' : ¬ y = a := fun e => h e.symm
      simp only [h, h', decide_false, cond_false]; exact ih _
theorem s88_s92 (l : List ByteArray) (a : ByteArray) : s88 l a = s92 l a := s148_l a l 0
theorem s24_loop (a : S23) (l : List ByteArray) (k : Nat) : s23_l1 a l k = s24_l1 a l k := by
  induction l generalizing k with
  | nil => rw [s23_l1, s24_l1, s84_s89]; rfl
  | cons y l ih =>
    rw [s23_l1, s24_l1, ih, s84_s89, s88_s92, s87_s95]
    unfold s95 s86
    simp only [s89_cons, s89_nil]
    cases s91 y <;> cases s92 (List.take (Int.toNat ((k : Nat) : Int)) a.Causes) y <;> simp
theorem rule_eq (a : S23) : s23 a = s24 (s18 a) := by
  unfold s23 s24 s18
  simp only [s84_s89, s24_loop, s85_s90, s89_cons, s89_nil]
  unfold s86
  generalize s90 a.Before 0 720 = x1
  generalize s90 a.After 0 720 = x2
  generalize s90 a.Notice 0 365 = x3
  generalize s90 a.Share 1 100 = x4
  generalize decide ((16 : Int) < (List.length a.Causes : Int)) = b
  generalize s24_l1 a a.Causes 0 = y
  by_cases h1 : x1 = 0
  · subst h1
    by_cases h2 : x2 = 0
    · subst h2
      by_cases h3 : x3 = 0
      · subst h3
        by_cases h4 : x4 = 0
        · subst h4; cases b <;> simp
        · simp [h4]
      · simp [h3]
    · simp [h2]
  · simp [h1]
theorem s20_l (l : List S151) (k : Nat) (x : List S151) : s20_l1 l k x = x ++ l := by
  induction l generalizing k x with
  | nil => simp [s20_l1]
  | cons y l ih => rw [s20_l1, ih]; simp
theorem s20_eq (l : List S151) : s20 l = l := by unfold s20; rw [s20_l]; rfl
theorem s93_l (f : S151 → Int) (l : List S151) (k : Nat) (x : List Int) : s93_l1 f l k x = x ++ l.map f := by
  induction l generalizing k x with
  | nil => simp [s93_l1]
  | cons y l ih => rw [s93_l1, ih]; simp
theorem s26_loop (l : List S151) (k : Nat) : s89 (l.map s94) = s26_l1 l k := by
  induction l generalizing k with
  | nil => rfl
  | cons y l ih => rw [List.map_cons, s89_cons, s26_l1, ih (k + 1), s94_eq]
theorem slots_eq (l : List S151) : s25 l = s26 (s20 l) := by
  rw [s20_eq]
  unfold s25 s26 s93
  rw [s93_l, s84_s89, List.nil_append, s26_loop l 0]
/-- the first that is not nought -/
def o (x y : Int) : Int := bif decide (x ≠ 0) then x else y
end Go.Sim

