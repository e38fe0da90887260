/-
  What is proved: laws of the checks: the program and the reference answer alike.
-/
import Derived.Test.YtdfgeoefbbkcnaaGreatDoorVaA8
import Derived.Test.YtdfgeoefbbkcnaaGreatDoorVaA6
set_option linter.unusedSectionVars false
set_option linter.unusedSimpArgs false
set_option linter.unusedVariables false
set_option linter.unnecessarySimpa false
set_option linter.deprecated false
namespace Go.Sim
open Go.Proofs Go.Ex
theorem ex16 : ∃ b : Bool, b = true := ⟨true, rfl⟩
noncomputable def s16 : Bool := ex16.choose
theorem qp0 : s16 = true := ex16.choose_spec
theorem c16 : Con (EG glT) 16 [] (G.bool s16) := by
 obtain ⟨h', c', h⟩ := qmv qmw
 rw [qp0]
 exact zx (vs := []) qt2 qv6 (by decide) (xu (by decide)) h
end Go.Sim
set_option linter.unusedSimpArgs false
set_option linter.unusedVariables false
set_option maxRecDepth 10000
namespace Go.Sim
open Go.Proofs
noncomputable def s3 (a0 : S23) (a1 : List S151) (a2 : List S104) : Bool :=
 (bif (((!s16) || (!(s17 (s18 a0)))) || (!(s19 (s20 a1) 6))) || (!(s21 (s22 a2) 6)) then s16 else ((decide ((s23 a0) = (s24 (s18 a0)))) && (decide ((s25 a1) = (s26 (s20 a1))))) && (decide ((s27 a2) = (s28 (s22 a2)))))
theorem c3 (a0 : S23) (a1 : List S151) (a2 : List S104)  (hb0 : a1.length * 40 ≤ 140737488351232) (hb1 : a2.length * 96 ≤ 140737488351232)  : Con (EG glT) 3 [G.agg [G.int a0.Before, G.int a0.After, G.int a0.Notice, G.int a0.Share, G.sl 1 (List.map cStr a0.Causes), G.int a0.Off, G.int a0.Run], G.sl 3 (List.map S151.c a1), G.sl 8 (List.map S104.c a2)] (G.bool (s3 a0 a1 a2)) := by
 generalize hR : s3 a0 a1 a2 = R
 unfold s3 at hR
 refine qp Tryz.func3 rfl rfl fun w0 M0 => ?_
 refine zc (f := S151.c) (l := a1) 1 rfl fun hla1 => ?_
 refine zc (f := S104.c) (l := a2) 2 rfl fun hla2 => ?_
 refine qd ?_
 refine qb [.p, .p] ?_
 refine st rfl rfl (zd rfl rfl) rfl ?_
 refine st rfl rfl (qc rfl rfl) rfl ?_
 refine qe ?_
 refine qd ?_
 refine qd ?_
 refine qb [.p, .p, .p, .p, .p, .p, .p, .p, .p, .p, .p, .p, .p, .p, .p, .p, .p, .p, .p, .p] ?_
 refine st rfl rfl (qj rfl K16 rfl (c16) qk) rfl ?_
 refine st rfl rfl (jx rfl rfl) rfl ?_
 refine st rfl rfl (qa rfl rfl) rfl ?_
 refine st_g rfl rfl rfl (qg _ _) (fun h => qt rfl ty24 rfl rfl rfl) rfl ?_
 refine st_g rfl rfl rfl (qg _ _) (fun h => qj rfl K18 rfl (c18 a0) (qh (gd h rfl) qk)) rfl ?_
 refine st_g rfl rfl rfl (qg _ _) (fun h => qj rfl K17 rfl (c17 (s18 a0)) (qh (gd h rfl) qk)) rfl ?_
 refine st_g rfl rfl rfl (qg _ _) (fun h => jx rfl (gd h rfl)) rfl ?_
 refine st rfl rfl (z8 rfl rfl rfl rfl) rfl ?_
 refine st rfl rfl (qa rfl rfl) rfl ?_
 refine st_g rfl rfl rfl (qg _ _) (fun h => qa rfl rfl) rfl ?_
 refine st_g rfl rfl rfl (qg _ _) (fun h => qj rfl K20 rfl (c20 a1 (by first | assumption | omega | (simp [qv]; omega))) (qh (gd h rfl) qk)) rfl ?_
 refine st_g rfl rfl rfl (qg _ _) (fun h => qj rfl K19 rfl (c19 (s20 a1) 6) (qh (gd h rfl) (qh rfl qk))) rfl ?_
 refine st_g rfl rfl rfl (qg _ _) (fun h => jx rfl (gd h rfl)) rfl ?_
 refine st rfl rfl (z8 rfl rfl rfl rfl) rfl ?_
 refine st rfl rfl (qa rfl rfl) rfl ?_
 refine st_g rfl rfl rfl (qg _ _) (fun h => qa rfl rfl) rfl ?_
 refine st_g rfl rfl rfl (qg _ _) (fun h => qj rfl K22 rfl (c22 a2 (by first | assumption | omega | (simp [qv]; omega))) (qh (gd h rfl) qk)) rfl ?_
 refine st_g rfl rfl rfl (qg _ _) (fun h => qj rfl K21 rfl (c21 (s22 a2) 6) (qh (gd h rfl) (qh rfl qk))) rfl ?_
 refine st_g rfl rfl rfl (qg _ _) (fun h => jx rfl (gd h rfl)) rfl ?_
 refine st rfl rfl (z8 rfl rfl rfl rfl) rfl ?_
 refine qe ?_
 refine qm _ rfl (fun h1 => ?_) (fun h1 => ?_)
 ·replace h1 : ((((!s16) || (!(s17 (s18 a0)))) || (!(s19 (s20 a1) 6))) || (!(s21 (s22 a2) 6))) = true := h1
  replace hR := zk hR h1
  refine qd ?_
  refine qb [.p, .p] ?_
  refine st rfl rfl (qj rfl K16 rfl (c16) qk) rfl ?_
  refine st rfl rfl (qc rfl rfl) rfl ?_
  refine qe ?_
  refine qr ?_
  subst hR
  exact zb rfl (rv_g rfl)
 ·replace h1 : ((((!s16) || (!(s17 (s18 a0)))) || (!(s19 (s20 a1) 6))) || (!(s21 (s22 a2) 6))) = false := h1
  replace hR := zl hR h1
  try simp only [Bool.or_eq_true, Bool.and_eq_true, Bool.or_eq_false_iff, Bool.and_eq_false_iff, Bool.not_eq_true', Bool.not_eq_false', decide_eq_true_eq, decide_eq_false_iff_not] at h1
  refine qo ?_
  refine qd ?_
  refine zw [.p, .p, .p, .p, .p, .p, .p, .p, .p, .p, .p, .p, .p, .p, .p, .p, .p, .p, .p, .p, .p, .p, .p] (by kernel_rfl) ?_
  refine st rfl rfl (qt rfl ty24 rfl rfl rfl) rfl ?_
  refine st rfl rfl (qj rfl K23 rfl (c23 a0) (qh rfl qk)) rfl ?_
  refine st rfl rfl (qt rfl ty24 rfl rfl rfl) rfl ?_
  refine st rfl rfl (qj rfl K18 rfl (c18 a0) (qh rfl qk)) rfl ?_
  refine st rfl rfl (qj rfl K24 rfl (c24 (s18 a0)) (qh rfl qk)) rfl ?_
  refine st rfl rfl (jq rfl rfl rfl) rfl ?_
  refine st rfl rfl (qa rfl rfl) rfl ?_
  refine st_g rfl rfl rfl (qg _ _) (fun h => qa rfl rfl) rfl ?_
  refine st_g rfl rfl rfl (qg _ _) (fun h => qj rfl K25 rfl (c25 a1) (qh (gd h rfl) qk)) rfl ?_
  refine st_g rfl rfl rfl (qg _ _) (fun h => qa rfl rfl) rfl ?_
  refine st_g rfl rfl rfl (qg _ _) (fun h => qj rfl K20 rfl (c20 a1 (by first | assumption | omega | (simp [qv]; omega))) (qh (gd h rfl) qk)) rfl ?_
  refine st_g rfl rfl rfl (qg _ _) (fun h => qj rfl K26 rfl (c26 (s20 a1)) (qh (gd h rfl) qk)) rfl ?_
  refine st_g rfl rfl rfl (qg _ _) (fun h => jq rfl (gd h rfl) (gd h rfl)) rfl ?_
  refine st rfl rfl (zf rfl rfl rfl rfl) rfl ?_
  refine st rfl rfl (qa rfl rfl) rfl ?_
  refine st_g rfl rfl rfl (qg _ _) (fun h => qa rfl rfl) rfl ?_
  refine st_g rfl rfl rfl (qg _ _) (fun h => qj rfl K27 rfl (c27 a2) (qh (gd h rfl) qk)) rfl ?_
  refine st_g rfl rfl rfl (qg _ _) (fun h => qa rfl rfl) rfl ?_
  refine st_g rfl rfl rfl (qg _ _) (fun h => qj rfl K22 rfl (c22 a2 (by first | assumption | omega | (simp [qv]; omega))) (qh (gd h rfl) qk)) rfl ?_
  refine st_g rfl rfl rfl (qg _ _) (fun h => qj rfl K28 rfl (c28 (s22 a2)) (qh (gd h rfl) qk)) rfl ?_
  refine st_g rfl rfl rfl (qg _ _) (fun h => jq rfl (gd h rfl) (gd h rfl)) rfl ?_
  refine st rfl rfl (zf rfl rfl rfl rfl) rfl ?_
  refine st rfl rfl (qc rfl rfl) rfl ?_
  refine qe ?_
  refine qr ?_
  subst hR
  exact zb rfl (rv_g rfl)
end Go.Sim
namespace Go.Sim
theorem qmx {s : ByteArray} {i : Nat} (h : (s.get! i).toNat < 128) : Utf8.decode s i = ((s.get! i).toNat, 1) := by
 unfold Utf8.decode
 simp [h]
theorem qmy {s : ByteArray} {i : Nat} (h : 128 ≤ (s.get! i).toNat) : 128 ≤ (Utf8.decode s i).1 := by
 unfold Utf8.decode
 simp only [Nat.add_zero]
 rw [if_neg (by omega)]
 repeat' split
 all_goals first | assumption | (simp [Utf8.runeError]; done) | (rename_i h2; simp only [Bool.and_eq_true, decide_eq_true_eq] at h2; have h3 := h2.1; dsimp only; omega)
theorem qlb {s : ByteArray} {i : Nat} (h : i < s.data.toList.length) : s.get! i = s.data.toList[i] := by
 have h' : i < s.data.size := by simpa using h
 show s.data[i]! = _
 rw [getElem!_pos s.data i h']
 simp
theorem qmz (s : ByteArray) : ∀ n pos, s.size ≤ pos + n → s147_l1 (runesF s n pos) = s91_l1 (s.data.toList.drop pos) pos := by
 intro n
 induction n with
 | zero =>
  intro pos h
  rw [List.drop_eq_nil_of_le (by simpa using h)]; rfl
 | succ n ih =>
  intro pos h
  unfold runesF
  split
  ·rename_i hp
   have hl : pos < s.data.toList.length := by simpa using hp
   rw [List.drop_eq_getElem_cons hl, s147_l1, s91_l1, ← qlb hl]
   rcases Nat.lt_or_ge (s.get! pos).toNat 128 with hb | hb
   ·rw [qmx hb, ih (pos + 1) (by omega)]
    have e1 : (decide (((pos : Nat) : Int) = 0)) = decide ((pos : Int) = 0) := rfl
    dsimp only
    rw [Bool.or_comm ((decide ((65 : Int) ≤ _)) && _)]
   ·have hb2 := qmy hb
    have c1 : (!(((decide ((65 : Int) ≤ ((Utf8.decode s pos).1 : Int))) && (decide (((Utf8.decode s pos).1 : Int) ≤ 90))) || ((decide ((97 : Int) ≤ ((Utf8.decode s pos).1 : Int))) && (decide (((Utf8.decode s pos).1 : Int) ≤ 122))))) = true := by
     simp; omega
    have c2 : (!(((decide ((97 : Int) ≤ ((s.get! pos).toNat : Int))) && (decide (((s.get! pos).toNat : Int) ≤ 122))) || ((decide ((65 : Int) ≤ ((s.get! pos).toNat : Int))) && (decide (((s.get! pos).toNat : Int) ≤ 90))))) = true := by
     simp; omega
    dsimp only
    rw [c1, c2]
    have d1 : (decide (((Utf8.decode s pos).1 : Int) ≠ 95) && (decide (((Utf8.decode s pos).1 : Int) < 48) || decide (57 < ((Utf8.decode s pos).1 : Int)))) = true := by simp; omega
    have d2 : (decide (((s.get! pos).toNat : Int) ≠ 95) && (decide (((s.get! pos).toNat : Int) < 48) || decide (57 < ((s.get! pos).toNat : Int)))) = true := by simp; omega
    rw [d1, d2]; simp
  ·rename_i hp
   rw [List.drop_eq_nil_of_le (by simpa using hp)]; rfl
theorem qrr (s : ByteArray) : s147 s = s91 s := by
 unfold s147 s91 runes
 rw [qmz s _ 0 (by omega)]; rfl
theorem xo (l : List Int) : s84 l = s89 l := by
 unfold s84 s89
 generalize 0 = k
 induction l generalizing k with
 | nil => rfl
 | cons x l ih => rw [s84_l1, s89_l1, ih]
theorem wz : s89 [] = 0 := rfl
theorem qv7 (l : List Int) (k k' : Nat) : s89_l1 l k = s89_l1 l k' := by
 induction l generalizing k k' with
 | nil => rfl
 | cons x l ih => rw [s89_l1, s89_l1, ih (k + 1) (k' + 1)]
theorem qac (x : Int) (l : List Int) : s89 (x :: l) = bif decide (x ≠ 0) then x else s89 l := by
 unfold s89; rw [s89_l1, qv7 l 1 0]
theorem qrs (a b c : Int) : s85 a b c = s90 a b c := rfl
theorem qe5 (s : ByteArray) : s87 s = s95 s := by unfold s87 s95 s86; rw [qrr]
theorem qj0 (s : ByteArray) : s101 s = s97 s := rfl
theorem qt3 (x : S151) : s94 x = s89 [s95 x.Name, s96 x.Moment, s97 x.Kind] := by
 unfold s94; rw [xo, qe5]; rfl
theorem qt4 (a : ByteArray) (l : List ByteArray) (k : Nat) : decide (0 ≤ s148_l1 a l k) = s92_l1 a l k := by
 induction l generalizing k with
 | nil => rfl
 | cons y l ih =>
  rw [s148_l1, s92_l1]
  by_cases h : a = y
  ·subst h; simp
  ·have h' : ¬ y = a := fun e => h e.symm
   simp only [h, h', decide_false, cond_false]; exact ih _
theorem qif (l : List ByteArray) (a : ByteArray) : s88 l a = s92 l a := qt4 a l 0
theorem qox (a : S23) (l : List ByteArray) (k : Nat) : s23_l1 a l k = s24_l1 a l k := by
 induction l generalizing k with
 | nil => rw [s23_l1, s24_l1, xo]; rfl
 | cons y l ih =>
  rw [s23_l1, s24_l1, ih, xo, qif, qe5]
  unfold s95 s86
  simp only [qac, wz]
  cases s91 y <;> cases s92 (List.take (Int.toNat ((k : Nat) : Int)) a.Causes) y <;> simp
theorem qrq (a : S23) : s23 a = s24 (s18 a) := by
 unfold s23 s24 s18
 simp only [xo, qox, qrs, qac, wz]
 unfold s86
 generalize s90 a.Before 0 720 = x1
 generalize s90 a.After 0 720 = x2
 generalize s90 a.Notice 0 365 = x3
 generalize s90 a.Share 1 100 = x4
 generalize decide ((16 : Int) < (List.length a.Causes : Int)) = b
 generalize s24_l1 a a.Causes 0 = y
 by_cases h1 : x1 = 0
 ·subst h1
  by_cases h2 : x2 = 0
  ·subst h2
   by_cases h3 : x3 = 0
   ·subst h3
    by_cases h4 : x4 = 0
    ·subst h4; cases b <;> simp
    ·simp [h4]
   ·simp [h3]
  ·simp [h2]
 ·simp [h1]
theorem qv8 (l : List S151) (k : Nat) (x : List S151) : s20_l1 l k x = x ++ l := by
 induction l generalizing k x with
 | nil => simp [s20_l1]
 | cons y l ih => rw [s20_l1, ih]; simp
theorem qgt (l : List S151) : s20 l = l := by unfold s20; rw [qv8]; rfl
theorem qv9 (l : List S104) (k : Nat) (x : List S104) : s22_l1 l k x = x ++ l := by
 induction l generalizing k x with
 | nil => simp [s22_l1]
 | cons y l ih => rw [s22_l1, ih]; simp
theorem qgs (l : List S104) : s22 l = l := by unfold s22; rw [qv9]; rfl
theorem qwa (f : S151 → Int) (l : List S151) (k : Nat) (x : List Int) : s93_l1 f l k x = x ++ l.map f := by
 induction l generalizing k x with
 | nil => simp [s93_l1]
 | cons y l ih => rw [s93_l1, ih]; simp
theorem qwb (f : S104 → Int) (l : List S104) (k : Nat) (x : List Int) : s98_l1 f l k x = x ++ l.map f := by
 induction l generalizing k x with
 | nil => simp [s98_l1]
 | cons y l ih => rw [s98_l1, ih]; simp
theorem qoy (l : List S151) (k : Nat) : s89 (l.map s94) = s26_l1 l k := by
 induction l generalizing k with
 | nil => rfl
 | cons y l ih => rw [List.map_cons, qac, s26_l1, ih (k + 1), qt3]
theorem qow (l : List S151) : s25 l = s26 (s20 l) := by
 rw [qgt]
 unfold s25 s26 s93
 rw [qwa, xo, List.nil_append, qoy l 0]
theorem qoz (h : ∀ x, s99 x = s100 x) (l : List S104) (k : Nat) : s89 (l.map s99) = s28_l1 l k := by
 induction l generalizing k with
 | nil => rfl
 | cons y l ih => rw [List.map_cons, qac, s28_l1, ih (k + 1), h]
theorem qov (h : ∀ x, s99 x = s100 x) (l : List S104) : s27 l = s28 (s22 l) := by
 rw [qgs]
 unfold s27 s28 s98
 rw [qwb, xo, List.nil_append, qoz h l 0]
def o (x y : Int) : Int := bif decide (x ≠ 0) then x else y
theorem o0l (y : Int) : o 0 y = y := rfl
theorem o0r (x : Int) : o x 0 = x := by unfold o; by_cases h : x = 0 <;> simp [h]
theorem o_as (x y z : Int) : o (o x y) z = o x (o y z) := by
 unfold o; by_cases h : x = 0
 ·subst h; simp
 ·simp [h]
theorem qm0 (x : Int) (l : List Int) : s89 (x :: l) = o x (s89 l) := qac x l
theorem j2_o (x1 : Int) (x2 : ByteArray) (x3 : Int) (x4 : ByteArray) (x5 : Int) (x6 : Int) (x7 : ByteArray) (x8 : Int) : s100_j2 x1 x2 x3 x4 x5 x6 x7 x8 = o x1 (s86 ((!decide (x2 = (⟨#[]⟩ : ByteArray))) || decide (x3 ≠ 0) || (!decide (x4 = (⟨#[]⟩ : ByteArray))) || decide (x5 ≠ 0) || decide (x6 ≠ 0) || (!decide (x7 = (⟨#[]⟩ : ByteArray))) || decide (x8 ≠ 0)) 1) := by
 have e : (ByteArray.empty) = (⟨#[]⟩ : ByteArray) := rfl
 unfold s100_j2 s100_j1 o s86
 rw [e]
 by_cases h : x1 = 0
 ·subst h
  by_cases h2 : x2 = (⟨#[]⟩ : ByteArray) <;> by_cases h3 : x3 = 0 <;> by_cases h4 : x4 = (⟨#[]⟩ : ByteArray) <;> by_cases h5 : x5 = 0 <;> by_cases h6 : x6 = 0 <;> by_cases h7 : x7 = (⟨#[]⟩ : ByteArray) <;> by_cases h8 : x8 = 0 <;> simp [h2, h3, h4, h5, h6, h7, h8, eqAnd]
 ·simp [h]
theorem j5_o (a : S104) (x11 : Int) (x12 : ByteArray) : s100_j5 a x11 x12 = s100_j4 a x12 (o x11 (o (s109 a.fFrom) (o (s109 a.fTo) (s86 (decide (a.fTo < a.fFrom)) 11)))) := by
 unfold s100_j5
 simp only [qm0, wz, o0r]
 rw [show o x11 (o (s109 a.fFrom) (o (s109 a.fTo) (s86 (decide (a.fTo < a.fFrom)) 11))) = o (o x11 (o (s109 a.fFrom) (s109 a.fTo))) (s86 (decide (a.fTo < a.fFrom)) 11) by simp only [o_as]]
 generalize o x11 (o (s109 a.fFrom) (s109 a.fTo)) = x
 unfold o s86
 by_cases h : x = 0 <;> by_cases h2 : a.fTo < a.fFrom <;> simp [h, h2]
theorem qo0 (x : Int) : s150 false x = 0 := rfl
theorem qo1 (x : Int) : s150 true x = x := rfl
theorem qrp (x : S104) : s99 x = s100 x := by
 unfold s99 s100
 simp only [xo, qm0, wz, o0r, qif, qe5, qj0, s149, show ∀ y, s151 y = s109 y from fun _ => rfl, show ∀ y, s85 y 0 143999999 = s96 y from fun _ => rfl]
 by_cases h1 : x.Kind = ⟨#[102, 108, 121]⟩
 ·rw [h1]
  simp (decide := true) only [s92, s92_l1, j2_o, qo0, qo1, o0l, o_as, decide_true, decide_false, Bool.not_true, Bool.not_false, cond_true, cond_false, Bool.false_and, Bool.true_and, Bool.false_or, Bool.or_false, Bool.or_assoc]
 ·by_cases h2 : x.Kind = ⟨#[98, 97, 99, 107]⟩
  ·rw [h2]
   simp (decide := true) only [s92, s92_l1, s100_j6, j5_o, s100_j4, s100_j3, j2_o, qm0, wz, o0r, qo0, qo1, o0l, o_as, decide_true, decide_false, Bool.not_true, Bool.not_false, cond_true, cond_false, Bool.false_and, Bool.true_and, Bool.false_or, Bool.or_false, Bool.or_assoc, h2]
  ·by_cases h3 : x.Kind = ⟨#[99, 97, 110, 99, 101, 108]⟩
   ·rw [h3]
    simp (decide := true) only [s92, s92_l1, s100_j6, j5_o, s100_j4, s100_j3, j2_o, qm0, wz, o0r, qo0, qo1, o0l, o_as, decide_true, decide_false, Bool.not_true, Bool.not_false, cond_true, cond_false, Bool.false_and, Bool.true_and, Bool.false_or, Bool.or_false, Bool.or_assoc, h3]
   ·by_cases h4 : x.Kind = ⟨#[119, 101, 97, 116, 104, 101, 114]⟩
    ·rw [h4]
     simp (decide := true) only [s92, s92_l1, s100_j6, j5_o, s100_j4, s100_j3, j2_o, qm0, wz, o0r, qo0, qo1, o0l, o_as, decide_true, decide_false, Bool.not_true, Bool.not_false, cond_true, cond_false, Bool.false_and, Bool.true_and, Bool.false_or, Bool.or_false, Bool.or_assoc, h4]
    ·have e : s92 [⟨#[102, 108, 121]⟩, ⟨#[98, 97, 99, 107]⟩, ⟨#[99, 97, 110, 99, 101, 108]⟩, ⟨#[119, 101, 97, 116, 104, 101, 114]⟩] x.Kind = false := by
      simp [s92, s92_l1, fun (a b : ByteArray) => (eq_comm : a = b ↔ b = a), h1, h2, h3, h4]
     rw [e]; simp [h1, h2, h3, h4, s100_j6]
end Go.Sim
