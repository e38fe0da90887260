/-
  What is proved: lemmas and contracts of functions on the way to the law groundNights (part 8).
-/
import Derived.Test.YthhidpjikbhljaaGreatDoorVrA6
import Derived.Test.YthhidpjikbhljaaGreatDoorVrA7
set_option linter.unusedSectionVars false
set_option linter.unusedSimpArgs false
set_option linter.unusedVariables false
set_option linter.unnecessarySimpa false
set_option linter.deprecated false
set_option maxRecDepth 10000
namespace Go.Sim
open Go.Proofs
def s1007_j1 (a0 : S1089) (a1 : Int) (x1 : Int) (x2 : Int) : Bool :=
 (bif decide (x1 ≠ 0) then (decide ((s1050 (S1085.mk a0.Night.fFrom a0.Night.fTo) a1).1 = 0)) && (decide ((s1050 (S1085.mk a0.Night.fFrom a0.Night.fTo) a1).2 = x1)) else (decide ((s1050 (S1085.mk a0.Night.fFrom a0.Night.fTo) a1).2 = 0)) && (decide ((s1050 (S1085.mk a0.Night.fFrom a0.Night.fTo) a1).1 = x2)))
noncomputable def s1007 (a0 : S1089) (a1 : Int) : Bool :=
 (bif (!s1015) || (decide (60 < (ByteArray.size a0.Season.Kind : Int))) then s1015 else (bif decide ((s1047 a0) ≠ (s1048 (s1049 a0))) then false else (bif decide ((s1040 [(s1051 (S1085.mk a0.Night.fFrom a0.Night.fTo)), (s96 a1)]) = 0) then s1007_j1 a0 a1 (s1038 (!((s1052 (S1085.mk a0.Night.fFrom a0.Night.fTo) a1).2)) 7) ((s1052 (S1085.mk a0.Night.fFrom a0.Night.fTo) a1).1) else s1007_j1 a0 a1 (s1040 [(s1051 (S1085.mk a0.Night.fFrom a0.Night.fTo)), (s96 a1)]) 0)))
theorem c1007 (a0 : S1089) (a1 : Int)    : Con (EG glT) 7 [G.agg [G.int a0.Night.fFrom, G.int a0.Night.fTo, G.int a0.Season.Year, G.str a0.Season.Kind, G.int a0.Count, G.int a0.Points], G.int a1] (G.bool (s1007 a0 a1)) := by
 generalize hR : s1007 a0 a1 = R;unfold s1007 at hR;refine con_of_aw Tryz.func7 rfl rfl fun w0 M0 => ?_;refine aw_seq ?_;refine aw_region [.p, .p] ?_;refine st rfl rfl (eff_box rfl rfl) rfl ?_;refine st rfl rfl (eff_assigng rfl rfl) rfl ?_;refine st_nil ?_;refine aw_seq ?_;refine aw_seq ?_;refine aw_region [.p, .p, .p, .p, .p, .p, .p, .p, .p] ?_;refine st rfl rfl (eff_call rfl K1015 rfl (c1015) ag_nil) rfl ?_;refine st rfl rfl (eff_not rfl rfl) rfl ?_;refine st rfl rfl (eff_moveg rfl rfl) rfl ?_;refine st_g rfl rfl rfl (gb_bool _ _) (fun h => eff_fieldAddr rfl fl1090_1 rfl) rfl ?_;refine st_g rfl rfl rfl (gb_bool _ _) (fun h => eff_fieldAddr rfl fl68_1 (gd h rfl)) rfl ?_;refine st_g rfl rfl rfl (gb_bool _ _) (fun h => eff_load rfl ty9 (gd h rfl)) rfl ?_;refine st_g rfl rfl rfl (gb_bool _ _) (fun h => eff_lenS rfl Tryz.underlying9 (gd h rfl)) rfl ?_;refine st_g rfl rfl rfl (gb_bool _ _) (fun h => eff_gtr rfl (gd h rfl) rfl) rfl ?_;refine st rfl rfl (eff_or rfl rfl rfl rfl) rfl ?_;refine st_nil ?_;refine aw_cond _ rfl (fun h1 => ?_) (fun h1 => ?_)
 ·replace h1 : ((!s1015) || (decide (60 < (ByteArray.size a0.Season.Kind : Int)))) = true := h1;replace hR := condT hR h1;(try simp only [Bool.or_eq_true, Bool.and_eq_true, Bool.or_eq_false_iff, Bool.and_eq_false_iff, Bool.not_eq_true', Bool.not_eq_false', decide_eq_true_eq, decide_eq_false_iff_not] at h1);refine aw_seq ?_;refine aw_region [.p, .p] ?_;refine st rfl rfl (eff_call rfl K1015 rfl (c1015) ag_nil) rfl ?_;refine st rfl rfl (eff_assigng rfl rfl) rfl ?_;refine st_nil ?_;refine aw_ret ?_;subst hR;exact res_c rfl (rv_g rfl)
 ·replace h1 : ((!s1015) || (decide (60 < (ByteArray.size a0.Season.Kind : Int)))) = false := h1;replace hR := condF hR h1;(try simp only [Bool.or_eq_true, Bool.and_eq_true, Bool.or_eq_false_iff, Bool.and_eq_false_iff, Bool.not_eq_true', Bool.not_eq_false', decide_eq_true_eq, decide_eq_false_iff_not] at h1);refine aw_skip ?_;refine aw_seq ?_;refine aw_seq ?_;refine aw_draw [.p, .p, .p, .p, .p, .p] (by kernel_rfl) ?_;refine st rfl rfl (eff_loadA rfl ty1090 rfl rfl rfl) rfl ?_;refine st rfl rfl (eff_call rfl K1047 rfl (c1047 a0) (ag_cons rfl ag_nil)) rfl ?_;refine st rfl rfl (eff_loadA rfl ty1090 rfl rfl rfl) rfl ?_;refine st rfl rfl (eff_call rfl K1049 rfl (c1049 a0) (ag_cons rfl ag_nil)) rfl ?_;refine st rfl rfl (eff_call rfl K1048 rfl (c1048 (s1049 a0)) (ag_cons rfl ag_nil)) rfl ?_;refine st rfl rfl (eff_neq rfl rfl rfl) rfl ?_;refine st_nil ?_;refine aw_cond _ rfl (fun h2 => ?_) (fun h2 => ?_)
  ·replace h2 : (decide ((s1047 a0) ≠ (s1048 (s1049 a0)))) = true := h2;replace hR := condT hR h2;(try simp only [Bool.or_eq_true, Bool.and_eq_true, Bool.or_eq_false_iff, Bool.and_eq_false_iff, Bool.not_eq_true', Bool.not_eq_false', decide_eq_true_eq, decide_eq_false_iff_not] at h2);refine aw_seq ?_;refine aw_region [.p] ?_;refine st rfl rfl (eff_assigng rfl rfl) rfl ?_;refine st_nil ?_;refine aw_ret ?_;subst hR;exact res_c rfl (rv_g rfl)
  ·replace h2 : (decide ((s1047 a0) ≠ (s1048 (s1049 a0)))) = false := h2;replace hR := condF hR h2;(try simp only [Bool.or_eq_true, Bool.and_eq_true, Bool.or_eq_false_iff, Bool.and_eq_false_iff, Bool.not_eq_true', Bool.not_eq_false', decide_eq_true_eq, decide_eq_false_iff_not] at h2);refine aw_skip ?_;refine aw_seq ?_;refine aw_region [.p, .p, .p, .p, .p, .p, .p, .p, .p] ?_;refine st rfl rfl (eff_fieldAddr rfl fl1090_0 rfl) rfl ?_;refine st rfl rfl (eff_loadA rfl ty1086 rfl rfl rfl) rfl ?_;refine st rfl rfl (eff_moveg rfl rfl) rfl ?_;refine st rfl rfl (eff_call rfl K1050 rfl (c1050 (S1085.mk a0.Night.fFrom a0.Night.fTo) a1) (ag_cons rfl (ag_cons rfl ag_nil))) rfl ?_;refine st rfl rfl (eff_moveg rfl rfl) rfl ?_;refine st rfl rfl (eff_extract rfl rfl rfl) rfl ?_;refine st rfl rfl (eff_extract rfl rfl rfl) rfl ?_;refine st rfl rfl (eff_assigng rfl rfl) rfl ?_;refine st rfl rfl (eff_assigng rfl rfl) rfl ?_;refine st_nil ?_;refine aw_seq ?_;refine aw_region [.p, .p, .p, .p, .p, .p, .p, .p] ?_;refine st rfl rfl (eff_fieldAddr rfl fl1090_0 rfl) rfl ?_;refine st rfl rfl (eff_loadA rfl ty1086 rfl rfl rfl) rfl ?_;refine st rfl rfl (eff_call rfl K1051 rfl (c1051 (S1085.mk a0.Night.fFrom a0.Night.fTo)) (ag_cons rfl ag_nil)) rfl ?_;refine st rfl rfl (eff_moveg rfl rfl) rfl ?_;refine st rfl rfl (eff_call rfl K96 rfl (c96 a1) (ag_cons rfl ag_nil)) rfl ?_;refine st rfl rfl (eff_buildSlice rfl Tryz.underlying51 ty3 z3 rfl (ps_cons rfl (ps_cons rfl ps_nil)) rfl (by simp []) (by decide)) rfl ?_;refine st rfl rfl (eff_call rfl K1040 rfl (c1040 [(s1051 (S1085.mk a0.Night.fFrom a0.Night.fTo)), (s96 a1)]) (ag_cons rfl ag_nil)) rfl ?_;refine st rfl rfl (eff_assigng rfl rfl) rfl ?_;refine st_nil ?_;refine aw_seq ?_;refine aw_region [.p] ?_;refine st rfl rfl (eff_assigng rfl rfl) rfl ?_;refine st_nil ?_;refine aw_cut_g (γ := Int × Int) (fun g => ([(5, .g (G.int ((s1050 (S1085.mk a0.Night.fFrom a0.Night.fTo) a1).1))), (6, .g (G.int ((s1050 (S1085.mk a0.Night.fFrom a0.Night.fTo) a1).2))), (7, .g (G.int g.1)), (8, .g (G.int g.2))], [])) (fun g => s1007_j1 a0 a1 g.1 g.2 = R) ?_ ?_
   ·refine aw_seq ?_;refine aw_region [.p, .p] ?_;refine st rfl rfl (eff_moveg rfl rfl) rfl ?_;refine st rfl rfl (eff_eql rfl rfl rfl) rfl ?_;refine st_nil ?_;refine aw_cond _ rfl (fun h4 => ?_) (fun h4 => ?_)
    ·replace h4 : (decide ((s1040 [(s1051 (S1085.mk a0.Night.fFrom a0.Night.fTo)), (s96 a1)]) = 0)) = true := h4;replace hR := condT hR h4;(try simp only [Bool.or_eq_true, Bool.and_eq_true, Bool.or_eq_false_iff, Bool.and_eq_false_iff, Bool.not_eq_true', Bool.not_eq_false', decide_eq_true_eq, decide_eq_false_iff_not] at h4);refine aw_seq ?_;refine aw_region [.p] ?_;refine st rfl rfl (eff_assigng rfl rfl) rfl ?_;refine st_nil ?_;refine aw_seq ?_;refine aw_region [.p, .p, .p, .p, .p, .p, .p, .p, .p] ?_;refine st rfl rfl (eff_fieldAddr rfl fl1090_0 rfl) rfl ?_;refine st rfl rfl (eff_loadA rfl ty1086 rfl rfl rfl) rfl ?_;refine st rfl rfl (eff_moveg rfl rfl) rfl ?_;refine st rfl rfl (eff_call rfl K1052 rfl (c1052 (S1085.mk a0.Night.fFrom a0.Night.fTo) a1) (ag_cons rfl (ag_cons rfl ag_nil))) rfl ?_;refine st rfl rfl (eff_moveg rfl rfl) rfl ?_;refine st rfl rfl (eff_extract rfl rfl rfl) rfl ?_;refine st rfl rfl (eff_extract rfl rfl rfl) rfl ?_;refine st rfl rfl (eff_assigng rfl rfl) rfl ?_;refine st rfl rfl (eff_assigng rfl rfl) rfl ?_;refine st_nil ?_;refine aw_region [.p, .p, .p, .p] ?_;refine st rfl rfl (eff_moveg rfl rfl) rfl ?_;refine st rfl rfl (eff_not rfl rfl) rfl ?_;refine st rfl rfl (eff_call rfl K1038 rfl (c1038 (!((s1052 (S1085.mk a0.Night.fFrom a0.Night.fTo) a1).2)) 7) (ag_cons rfl (ag_cons rfl ag_nil))) rfl ?_;refine st rfl rfl (eff_assigng rfl rfl) rfl ?_;refine st_nil ?_;exact ⟨rfl, ((s1038 (!((s1052 (S1085.mk a0.Night.fFrom a0.Night.fTo) a1).2)) 7), (s1052 (S1085.mk a0.Night.fFrom a0.Night.fTo) a1).1), ⟨rfl, rfl, rfl, rfl, trivial⟩, trivial, rfl, hR, trivial⟩
    ·replace h4 : (decide ((s1040 [(s1051 (S1085.mk a0.Night.fFrom a0.Night.fTo)), (s96 a1)]) = 0)) = false := h4;replace hR := condF hR h4;(try simp only [Bool.or_eq_true, Bool.and_eq_true, Bool.or_eq_false_iff, Bool.and_eq_false_iff, Bool.not_eq_true', Bool.not_eq_false', decide_eq_true_eq, decide_eq_false_iff_not] at h4);refine aw_skip ?_;exact ⟨rfl, ((s1040 [(s1051 (S1085.mk a0.Night.fFrom a0.Night.fTo)), (s96 a1)]), 0), ⟨rfl, rfl, rfl, rfl, trivial⟩, trivial, rfl, hR, trivial⟩
   ·rintro ⟨x1, x2⟩ hR;replace hR : s1007_j1 a0 a1 x1 x2 = R := hR;unfold s1007_j1 at hR;refine aw_seq ?_;refine aw_seq ?_;refine aw_region [.p, .p] ?_;refine st rfl rfl (eff_moveg rfl rfl) rfl ?_;refine st rfl rfl (eff_neq rfl rfl rfl) rfl ?_;refine st_nil ?_;refine aw_cond _ rfl (fun h3 => ?_) (fun h3 => ?_)
    ·replace h3 : (decide (x1 ≠ 0)) = true := h3;replace hR := condT hR h3;(try simp only [Bool.or_eq_true, Bool.and_eq_true, Bool.or_eq_false_iff, Bool.and_eq_false_iff, Bool.not_eq_true', Bool.not_eq_false', decide_eq_true_eq, decide_eq_false_iff_not] at h3);refine aw_seq ?_;refine aw_region [.p, .p, .p, .p, .p, .p, .p, .p] ?_;refine st rfl rfl (eff_moveg rfl rfl) rfl ?_;refine st rfl rfl (eff_eql rfl rfl rfl) rfl ?_;refine st rfl rfl (eff_moveg rfl rfl) rfl ?_;refine st_g rfl rfl rfl (gb_bool _ _) (fun h => eff_moveg rfl rfl) rfl ?_;refine st_g rfl rfl rfl (gb_bool _ _) (fun h => eff_moveg rfl rfl) rfl ?_;refine st_g rfl rfl rfl (gb_bool _ _) (fun h => eff_eql rfl (gd h rfl) (gd h rfl)) rfl ?_;refine st rfl rfl (eff_and rfl rfl rfl rfl) rfl ?_;refine st rfl rfl (eff_assigng rfl rfl) rfl ?_;refine st_nil ?_;refine aw_ret ?_;subst hR;exact res_c rfl (rv_g rfl)
    ·replace h3 : (decide (x1 ≠ 0)) = false := h3;replace hR := condF hR h3;(try simp only [Bool.or_eq_true, Bool.and_eq_true, Bool.or_eq_false_iff, Bool.and_eq_false_iff, Bool.not_eq_true', Bool.not_eq_false', decide_eq_true_eq, decide_eq_false_iff_not] at h3);refine aw_skip ?_;refine aw_seq ?_;refine aw_region [.p, .p, .p, .p, .p, .p, .p, .p] ?_;refine st rfl rfl (eff_moveg rfl rfl) rfl ?_;refine st rfl rfl (eff_eql rfl rfl rfl) rfl ?_;refine st rfl rfl (eff_moveg rfl rfl) rfl ?_;refine st_g rfl rfl rfl (gb_bool _ _) (fun h => eff_moveg rfl rfl) rfl ?_;refine st_g rfl rfl rfl (gb_bool _ _) (fun h => eff_moveg rfl rfl) rfl ?_;refine st_g rfl rfl rfl (gb_bool _ _) (fun h => eff_eql rfl (gd h rfl) (gd h rfl)) rfl ?_;refine st rfl rfl (eff_and rfl rfl rfl rfl) rfl ?_;refine st rfl rfl (eff_assigng rfl rfl) rfl ?_;refine st_nil ?_;refine aw_ret ?_;subst hR;exact res_c rfl (rv_g rfl)
theorem f89_k : ∀ (l : List Int) (k k' : Nat), s89_l1 l k = s89_l1 l k'
 | [], _, _ => rfl
 | x :: l, k, k' => by simp only [s89_l1]; rw [f89_k l (k + 1) (k' + 1)]
theorem s89_nil : s89 [] = 0 := rfl
theorem s89_cons (x : Int) (l : List Int) : s89 (x :: l) = if x = 0 then s89 l else x := by
 unfold s89;simp only [s89_l1];rw [f89_k l (0 + 1) 0]
 by_cases h : x = 0 <;> simp [h]
theorem f1085_k : ∀ (l : List Int) (k : Nat), s1085_l1 l k = s89_l1 l k
 | [], _ => rfl
 | x :: l, k => by simp only [s1085_l1, s89_l1]; rw [f1085_k l (k + 1)]
theorem s1085_eq (l : List Int) : s1085 l = s89 l := f1085_k l 0
theorem f152_k : ∀ (l : List Int) (k : Nat), s152_l1 l k = s89_l1 l k
 | [], _ => rfl
 | x :: l, k => by simp only [s152_l1, s89_l1]; rw [f152_k l (k + 1)]
theorem s152_eq (l : List Int) : s152 l = s89 l := f152_k l 0
theorem s1088_eq (a b c : Int) : s1088 a b c = s90 a b c := rfl
theorem s155_eq (a b c : Int) : s155 a b c = s90 a b c := rfl
theorem s1098_eq (a : Int) : s1098 a = s96 a := rfl
theorem s90_ite (a b c : Int) : s90 a b c = if b ≤ a ∧ a ≤ c then 0 else 3 := by
 unfold s90
 by_cases h1 : a < b <;> by_cases h2 : c < a <;> simp [h1, h2] <;> omega
theorem s1086_ite (b : Bool) (e : Int) : s1086 b e = if b = true then e else 0 := by cases b <;> rfl
theorem s1038_ite (b : Bool) (e : Int) : s1038 b e = if b = true then e else 0 := by cases b <;> rfl
theorem s154_ite (b : Bool) (e : Int) : s154 b e = if b = true then e else 0 := by cases b <;> rfl
theorem s1117_eq (n : S1085) : s1117 n = s1051 n := by
 unfold s1117 s1051 s1051_j1;rw [s1085_eq, s1088_eq, s1088_eq, s1086_ite];simp only [s89_cons, s89_nil, decide_eq_true_eq]
 by_cases h1 : s90 n.fFrom 0 1439 = 0 <;> by_cases h2 : s90 n.fTo 0 1439 = 0 <;> by_cases h3 : n.fFrom = n.fTo <;> simp [h1, h2, h3]
 all_goals (subst_vars; simp_all)
theorem s107_eq (s : S67) : s107 s = s41 s := by
 unfold s107 s41 s41_j1;rw [s152_eq, s155_eq, s154_ite];simp only [s89_cons, s89_nil]
 by_cases h1 : s90 s.Year 2000 2272 = 0 <;> by_cases h2 : s.Kind = ⟨#[83]⟩ <;> by_cases h3 : s.Kind = ⟨#[87]⟩ <;> simp [h1, h2, h3]
theorem s1047_eq (x : S1089) : s1047 x = s1048 (s1049 x) := by
 unfold s1047 s1048 s1049;rw [s1085_eq, s1117_eq, s107_eq, s1088_eq, s1088_eq]
theorem night_eq {n : S1085} {m : Int} (h0 : s1051 n = 0) (h1 : s96 m = 0) :
  s1050 n m = if (s1052 n m).2 = true then ((s1052 n m).1, 0) else (0, 7) := by
 have hm : 0 ≤ m ∧ m ≤ 143999999 := by
  unfold s96 at h1; rw [s90_ite] at h1
  split at h1 <;> simp_all
 have e1 : Int.tmod m 1440 = m % 1440 := Int.tmod_eq_emod_of_nonneg hm.1;have e2 : Int.tdiv m 1440 = m / 1440 := Int.tdiv_eq_ediv_of_nonneg hm.1;have w1 : IntKind.i64.wrap (m / 1440) = m / 1440 := wrap_i64 (by unfold I64; omega);have w2 : IntKind.i64.wrap (m / 1440 - 1) = m / 1440 - 1 := wrap_i64 (by unfold I64; omega);unfold s1050;rw [s1085_eq, s1117_eq, s1098_eq, h0, h1];unfold s1120 s1052;rw [e1, e2, w1, w2];simp only [s89_cons, s89_nil, if_true]
 have hq : 0 ≤ m / 1440 := by omega
 generalize m / 1440 = q at *;generalize m % 1440 = r at *;simp only [cond_eq_ite, Bool.and_eq_true, Bool.or_eq_true, decide_eq_true_eq, ne_eq, not_true_eq_false, if_false]
 by_cases c1 : n.fFrom < n.fTo <;> by_cases c2 : r < n.fFrom <;> by_cases c3 : r < n.fTo <;> by_cases c4 : 0 < q
 all_goals
  have d2 : (n.fFrom ≤ r) = ¬ (r < n.fFrom) := by rw [Int.not_lt]
  have d3 : (n.fTo ≤ r) = ¬ (r < n.fTo) := by rw [Int.not_lt]
  have d4 : (0 ≤ q - 1) = (0 < q) := by apply propext; omega
  (try simp [c1, c2, c3, c4, d2, d3, d4, hq]) <;> (try omega)
theorem s1007_true (x : S1089) (m : Int) : s1007 x m = true := by
 unfold s1007;rw [s1015_eq, s1047_eq, s1040, s1038_ite];simp only [Bool.not_true, Bool.false_or, ne_eq, not_true_eq_false, decide_false, cond_false]
 cases hz : decide (60 < (ByteArray.size x.Season.Kind : Int)) with
 | true => rfl
 | false =>
  rw [cond_false];simp only [s89_cons, s89_nil];unfold s1007_j1
  by_cases h0 : s1051 x.Night = 0
  ·by_cases h1 : s96 m = 0
   ·rw [show S1085.mk x.Night.fFrom x.Night.fTo = x.Night from rfl, night_eq h0 h1, h0, h1]
    cases hb : (s1052 x.Night m).2 <;> simp [hb]
   ·rw [show S1085.mk x.Night.fFrom x.Night.fTo = x.Night from rfl]
    have : s1050 x.Night m = (0, s96 m) := by
     unfold s1050;rw [s1085_eq, s1117_eq, s1098_eq]
     simp [s89_cons, s89_nil, h0, h1]
    rw [this]
    simp [h0, h1]
  ·rw [show S1085.mk x.Night.fFrom x.Night.fTo = x.Night from rfl]
   have : s1050 x.Night m = (0, s1051 x.Night) := by
    unfold s1050;rw [s1085_eq, s1117_eq, s1098_eq]
    simp [s89_cons, s89_nil, h0]
   rw [this]
   simp [h0]
end Go.Sim
