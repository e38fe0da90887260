/-
  What is proved: lemmas and contracts of functions on the way to the law groundAssigns (part 11).
-/
import Derived.Test.YthhidpjikbhljaaGreatDoorVrB1
import Derived.Test.YthhidpjikbhljaaGreatDoorVrA9
import Derived.Test.YthhidpjikbhljaaGreatDoorVrA8
import Derived.Test.YthhidpjikbhljaaGreatDoorVrA7
import Derived.Test.YthhidpjikbhljaaGreatDoorVrA5
set_option linter.unusedSectionVars false
set_option linter.unusedSimpArgs false
set_option linter.unusedVariables false
set_option linter.unnecessarySimpa false
set_option linter.deprecated false
set_option maxRecDepth 10000
namespace Go.Sim
open Go.Proofs
noncomputable def s1004 (a0 : S1049) (a1 : List Int) : Option Bool :=
 (bif (((!s1015) || (!(s1031 a0 4 9))) || ((decide (5 < (List.length a0.Turns : Int))) && (decide ((List.length a0.Turns : Int) < 9)))) || (decide (12 < (List.length a1 : Int))) then some s1015 else bindO (s1032 a0.Stands a0.Turns a0.Buffer) fun r1 => bindO (s1033 a0.Stands a0.Turns a0.Buffer ([] ++ a1)) fun r2 => bindO (s1034 a0) fun r3 => (bif decide (r3 ≠ 0) then bindO (s1035 r1.1 r1.2 r3 []) fun r4 => some (r4 && (decide (r2 = r3))) else bindO (s1036 (s1017 a0.Stands) (s1019 a0.Turns) a0.Buffer a1) fun r5 => (bif decide (r2 ≠ r5) then some false else (bif decide (8 < (List.length a0.Turns : Int)) then bindO (s1035 r1.1 r1.2 22 []) fun r6 => some r6 else bindO (s1037 (List.length (s1019 a0.Turns) + 1) (s1017 a0.Stands) (s1019 a0.Turns) a0.Buffer []) fun r7 => bindO (s1035 r1.1 r1.2 (s1038 (!r7.2) 23) r7.1) fun r8 => some r8))))
set_option maxHeartbeats 16000000 in
theorem c1004 (a0 : S1049) (a1 : List Int) {R : Bool}  (hb0 : a0.Stands.length * 40 ≤ 140737488351232) (hb1 : a0.Turns.length * 56 ≤ 140737488351232) (hR : s1004 a0 a1 = some R) : Con (EG glT) 4 [G.agg [G.sl 3 (List.map S1122.c a0.Stands), G.sl 5 (List.map S1124.c a0.Turns), G.int a0.Buffer], G.sl 1 (List.map cInt a1)] (G.bool R) := by
 unfold s1004 at hR;refine con_of_aw Tryz.func4 rfl rfl fun w0 M0 => ?_;refine len_sl (f := cInt) (l := a1) 1 rfl fun hla1 => ?_;refine aw_seq ?_;refine aw_region [.p, .p] ?_;refine st rfl rfl (eff_box rfl rfl) rfl ?_;refine st rfl rfl (eff_assigng rfl rfl) rfl ?_;refine st_nil ?_;refine aw_seq ?_;refine aw_region [.p, .p, .p, .p] ?_;refine st rfl rfl (eff_fieldAddr rfl fl1050_1 rfl) rfl ?_;refine st rfl rfl (eff_load rfl ty1023 rfl) rfl ?_;refine st rfl rfl (eff_lenM (f := S1124.c) (l := a0.Turns) rfl Tryz.underlying23 rfl) rfl ?_;refine st rfl rfl (eff_assigng rfl rfl) rfl ?_;refine st_nil ?_;refine aw_seq ?_;refine aw_seq ?_;refine aw_region [.p, .p, .p, .p, .p, .p, .p, .p, .p, .p, .p, .p, .p, .p, .p, .p, .p, .p, .p, .p] ?_;refine st rfl rfl (eff_call rfl K1015 rfl (c1015) ag_nil) rfl ?_;refine st rfl rfl (eff_not rfl rfl) rfl ?_;refine st rfl rfl (eff_moveg rfl rfl) rfl ?_;refine st_g rfl rfl rfl (gb_bool _ _) (fun h => eff_loadA rfl ty1050 rfl rfl rfl) rfl ?_;refine st_g rfl rfl rfl (gb_bool _ _) (fun h => eff_call rfl K1031 rfl (c1031 a0 4 9 (by first | assumption | omega | (simp [copyL_len]; done) | (simp [copyL_len]; omega)) (by first | assumption | omega | (simp [copyL_len]; done) | (simp [copyL_len]; omega))) (ag_cons (gd h rfl) (ag_cons rfl (ag_cons rfl ag_nil)))) rfl ?_;refine st_g rfl rfl rfl (gb_bool _ _) (fun h => eff_not rfl (gd h rfl)) rfl ?_;refine st rfl rfl (eff_or rfl rfl rfl rfl) rfl ?_;refine st rfl rfl (eff_moveg rfl rfl) rfl ?_;refine st_g rfl rfl rfl (gb_bool _ _) (fun h => eff_moveg rfl rfl) rfl ?_;refine st_g rfl rfl rfl (gb_bool _ _) (fun h => eff_gtr rfl (gd h rfl) rfl) rfl ?_;refine st_g rfl rfl rfl (gb_bool _ _) (fun h => eff_moveg rfl (gd h rfl)) rfl ?_;refine st_g rfl rfl rfl (gb_if _ _ _) (fun h => eff_moveg rfl rfl) rfl ?_;refine st_g rfl rfl rfl (gb_if _ _ _) (fun h => eff_lss rfl (gd h rfl) rfl) rfl ?_;refine st_g rfl rfl rfl (gb_bool _ _) (fun h => eff_and rfl (gd h rfl) rfl (gd2 h rfl)) rfl ?_;refine st rfl rfl (eff_or rfl rfl rfl rfl) rfl ?_;refine st rfl rfl (eff_moveg rfl rfl) rfl ?_;refine st_g rfl rfl rfl (gb_bool _ _) (fun h => eff_moveg rfl rfl) rfl ?_;refine st_g rfl rfl rfl (gb_bool _ _) (fun h => eff_lenM (f := cInt) (l := a1) rfl Tryz.underlying51 (gd h rfl)) rfl ?_;refine st_g rfl rfl rfl (gb_bool _ _) (fun h => eff_gtr rfl (gd h rfl) rfl) rfl ?_;refine st rfl rfl (eff_or rfl rfl rfl rfl) rfl ?_;refine st_nil ?_;refine aw_cond _ rfl (fun h1 => ?_) (fun h1 => ?_)
 ·replace h1 : ((((!s1015) || (!(s1031 a0 4 9))) || ((decide (5 < (List.length a0.Turns : Int))) && (decide ((List.length a0.Turns : Int) < 9)))) || (decide (12 < (List.length a1 : Int)))) = true := h1;replace hR := condT hR h1;(try simp only [Bool.or_eq_true, Bool.and_eq_true, Bool.or_eq_false_iff, Bool.and_eq_false_iff, Bool.not_eq_true', Bool.not_eq_false', decide_eq_true_eq, decide_eq_false_iff_not] at h1);refine aw_seq ?_;refine aw_region [.p, .p] ?_;refine st rfl rfl (eff_call rfl K1015 rfl (c1015) ag_nil) rfl ?_;refine st rfl rfl (eff_assigng rfl rfl) rfl ?_;refine st_nil ?_;refine aw_ret ?_;exact res_e (res_c rfl (rv_g rfl)) (congrArg (fun R_ => G.bool R_) (Option.some.inj hR))
 ·replace h1 : ((((!s1015) || (!(s1031 a0 4 9))) || ((decide (5 < (List.length a0.Turns : Int))) && (decide ((List.length a0.Turns : Int) < 9)))) || (decide (12 < (List.length a1 : Int)))) = false := h1;replace hR := condF hR h1;(try simp only [Bool.or_eq_true, Bool.and_eq_true, Bool.or_eq_false_iff, Bool.and_eq_false_iff, Bool.not_eq_true', Bool.not_eq_false', decide_eq_true_eq, decide_eq_false_iff_not] at h1);refine aw_skip ?_;refine aw_seq ?_;refine aw_draw [.p, .p, .p, .p, .p, .p, .p, .p] (by kernel_rfl) ?_;refine st rfl rfl (eff_fieldAddr rfl fl1050_0 rfl) rfl ?_;refine st rfl rfl (eff_load rfl ty1022 rfl) rfl ?_;refine st rfl rfl (eff_call rfl K1017 rfl (c1017 a0.Stands (by first | assumption | omega | (simp [copyL_len]; done) | (simp [copyL_len]; omega))) (ag_cons rfl ag_nil)) rfl ?_;refine st rfl rfl (eff_fieldAddr rfl fl1050_1 rfl) rfl ?_;refine st rfl rfl (eff_load rfl ty1023 rfl) rfl ?_;refine st rfl rfl (eff_call rfl K1019 rfl (c1019 a0.Turns (by first | assumption | omega | (simp [copyL_len]; done) | (simp [copyL_len]; omega))) (ag_cons rfl ag_nil)) rfl ?_;refine st rfl rfl (eff_assigng rfl rfl) rfl ?_;refine st rfl rfl (eff_assigng rfl rfl) rfl ?_;refine st_nil ?_;refine aw_seq ?_;refine Exists.elim (bindO_inv hR) (fun r1 hq_ => ?_);have br1 := hq_.1;replace hR := hq_.2;clear hq_;refine aw_region [.p, .p, .p, .p, .p, .p, .p, .p, .p, .p, .p, .p] ?_;refine st rfl rfl (eff_fieldAddr rfl fl1050_0 rfl) rfl ?_;refine st rfl rfl (eff_load rfl ty1022 rfl) rfl ?_;refine st rfl rfl (eff_fieldAddr rfl fl1050_1 rfl) rfl ?_;refine st rfl rfl (eff_load rfl ty1023 rfl) rfl ?_;refine st rfl rfl (eff_fieldAddr rfl fl1050_2 rfl) rfl ?_;refine st rfl rfl (eff_load rfl ty3 rfl) rfl ?_;refine st rfl rfl (eff_call rfl K1032 rfl (c1032 a0.Stands a0.Turns a0.Buffer br1) (ag_cons rfl (ag_cons rfl (ag_cons rfl ag_nil)))) rfl ?_;refine st rfl rfl (eff_moveg rfl rfl) rfl ?_;refine st rfl rfl (eff_extract rfl rfl rfl) rfl ?_;refine st rfl rfl (eff_extract rfl rfl rfl) rfl ?_;refine st rfl rfl (eff_assigng rfl rfl) rfl ?_;refine st rfl rfl (eff_assigng rfl rfl) rfl ?_;refine st_nil ?_;refine aw_seq ?_;refine Exists.elim (bindO_inv hR) (fun r2 hq_ => ?_);have br2 := hq_.1;replace hR := hq_.2;clear hq_;refine aw_draw2 [.pn 60, .pn 60, .pn 60, .pn 60, .pn 60, .pn 60, .w, .pn 60, .kn 60, .kn 60, .pn 60] (by kernel_rfl) ?_;refine st_pn rfl rfl (eff_fieldAddr rfl fl1050_0 rfl) rfl rfl rfl ?_;refine st_pn rfl rfl (eff_load rfl ty1022 rfl) rfl rfl rfl ?_;refine st_pn rfl rfl (eff_fieldAddr rfl fl1050_1 rfl) rfl rfl rfl ?_;refine st_pn rfl rfl (eff_load rfl ty1023 rfl) rfl rfl rfl ?_;refine st_pn rfl rfl (eff_fieldAddr rfl fl1050_2 rfl) rfl rfl rfl ?_;refine st_pn rfl rfl (eff_load rfl ty3 rfl) rfl rfl rfl ?_;refine st_w rfl rfl (eff_buildSO (xs := List.map cInt []) 60 rfl Tryz.underlying51 ty3 z3 rfl ps_nil rfl (by simp []) (by decide) rfl) rfl ?_;refine st_pn rfl rfl (eff_moveg rfl rfl) rfl rfl rfl ?_;refine st_kn rfl rfl (eff_appL (f := cInt) (out := []) (new := a1) rfl app82 rfl rfl (src_eq rfl (src_sl (by decide) (by simp []))) (refsN rfl) (by simp; omega)) rfl ?_;refine st_kn rfl rfl (eff_callF (xs := List.map cInt ([] ++ a1)) 60 rfl K1033 rfl (c1033 a0.Stands a0.Turns a0.Buffer ([] ++ a1) br2) (agf_cons rfl (agf_cons rfl (agf_cons rfl (agf_osl rfl rfl agf_nil)))) rfl (refsN rfl)) rfl ?_;refine st_pn rfl rfl (eff_assigng rfl rfl) rfl rfl rfl ?_;refine st_nil ?_;refine aw_seq ?_;refine Exists.elim (bindO_inv hR) (fun r3 hq_ => ?_);have br3 := hq_.1;replace hR := hq_.2;clear hq_;refine aw_region [.p, .p, .p] ?_;refine st rfl rfl (eff_loadA rfl ty1050 rfl rfl rfl) rfl ?_;refine st rfl rfl (eff_call rfl K1034 rfl (c1034 a0 (by first | assumption | omega | (simp [copyL_len]; done) | (simp [copyL_len]; omega)) (by first | assumption | omega | (simp [copyL_len]; done) | (simp [copyL_len]; omega)) br3) (ag_cons rfl ag_nil)) rfl ?_;refine st rfl rfl (eff_assigng rfl rfl) rfl ?_;refine st_nil ?_;refine aw_seq ?_;refine aw_seq ?_;refine aw_region [.p, .p] ?_;refine st rfl rfl (eff_moveg rfl rfl) rfl ?_;refine st rfl rfl (eff_neq rfl rfl rfl) rfl ?_;refine st_nil ?_;refine aw_cond _ rfl (fun h2 => ?_) (fun h2 => ?_)
  ·replace h2 : (decide (r3 ≠ 0)) = true := h2;replace hR := condT hR h2;(try simp only [Bool.or_eq_true, Bool.and_eq_true, Bool.or_eq_false_iff, Bool.and_eq_false_iff, Bool.not_eq_true', Bool.not_eq_false', decide_eq_true_eq, decide_eq_false_iff_not] at h2);refine aw_seq ?_;refine Exists.elim (bindO_inv hR) (fun r4 hq_ => ?_);have br4 := hq_.1;replace hR := hq_.2;clear hq_;refine aw_region [.p, .p, .p, .p, .p, .p, .p, .p, .p, .p] ?_;refine st rfl rfl (eff_moveg rfl rfl) rfl ?_;refine st rfl rfl (eff_moveg rfl rfl) rfl ?_;refine st rfl rfl (eff_moveg rfl rfl) rfl ?_;refine st rfl rfl (eff_callS rfl K1035 rfl (c1035 r1.1 r1.2 r3 [] br4) (sa_cons rfl (sa_cons rfl (sa_cons rfl (sa_nilS rfl sa_nil))))) rfl ?_;refine st rfl rfl (eff_moveg rfl rfl) rfl ?_;refine st_g rfl rfl rfl (gb_bool _ _) (fun h => eff_moveg rfl rfl) rfl ?_;refine st_g rfl rfl rfl (gb_bool _ _) (fun h => eff_moveg rfl rfl) rfl ?_;refine st_g rfl rfl rfl (gb_bool _ _) (fun h => eff_eql rfl (gd h rfl) (gd h rfl)) rfl ?_;refine st rfl rfl (eff_and rfl rfl rfl rfl) rfl ?_;refine st rfl rfl (eff_assigng rfl rfl) rfl ?_;refine st_nil ?_;refine aw_ret ?_;exact res_e (res_c rfl (rv_g rfl)) (congrArg (fun R_ => G.bool R_) (Option.some.inj hR))
  ·replace h2 : (decide (r3 ≠ 0)) = false := h2;replace hR := condF hR h2;(try simp only [Bool.or_eq_true, Bool.and_eq_true, Bool.or_eq_false_iff, Bool.and_eq_false_iff, Bool.not_eq_true', Bool.not_eq_false', decide_eq_true_eq, decide_eq_false_iff_not] at h2);refine aw_skip ?_;refine aw_seq ?_;refine aw_seq ?_;refine Exists.elim (bindO_inv hR) (fun r5 hq_ => ?_);have br5 := hq_.1;replace hR := hq_.2;clear hq_;refine aw_region [.p, .p, .p, .p, .p, .p, .p, .p] ?_;refine st rfl rfl (eff_moveg rfl rfl) rfl ?_;refine st rfl rfl (eff_moveg rfl rfl) rfl ?_;refine st rfl rfl (eff_moveg rfl rfl) rfl ?_;refine st rfl rfl (eff_fieldAddr rfl fl1050_2 rfl) rfl ?_;refine st rfl rfl (eff_load rfl ty3 rfl) rfl ?_;refine st rfl rfl (eff_moveg rfl rfl) rfl ?_;refine st rfl rfl (eff_call rfl K1036 rfl (c1036 (s1017 a0.Stands) (s1019 a0.Turns) a0.Buffer a1 br5) (ag_cons rfl (ag_cons rfl (ag_cons rfl (ag_cons rfl ag_nil))))) rfl ?_;refine st rfl rfl (eff_neq rfl rfl rfl) rfl ?_;refine st_nil ?_;refine aw_cond _ rfl (fun h3 => ?_) (fun h3 => ?_)
   ·replace h3 : (decide (r2 ≠ r5)) = true := h3;replace hR := condT hR h3;(try simp only [Bool.or_eq_true, Bool.and_eq_true, Bool.or_eq_false_iff, Bool.and_eq_false_iff, Bool.not_eq_true', Bool.not_eq_false', decide_eq_true_eq, decide_eq_false_iff_not] at h3);refine aw_seq ?_;refine aw_region [.p] ?_;refine st rfl rfl (eff_assigng rfl rfl) rfl ?_;refine st_nil ?_;refine aw_ret ?_;exact res_e (res_c rfl (rv_g rfl)) (congrArg (fun R_ => G.bool R_) (Option.some.inj hR))
   ·replace h3 : (decide (r2 ≠ r5)) = false := h3;replace hR := condF hR h3;(try simp only [Bool.or_eq_true, Bool.and_eq_true, Bool.or_eq_false_iff, Bool.and_eq_false_iff, Bool.not_eq_true', Bool.not_eq_false', decide_eq_true_eq, decide_eq_false_iff_not] at h3);refine aw_skip ?_;refine aw_seq ?_;refine aw_seq ?_;refine aw_region [.p, .p] ?_;refine st rfl rfl (eff_moveg rfl rfl) rfl ?_;refine st rfl rfl (eff_gtr rfl rfl rfl) rfl ?_;refine st_nil ?_;refine aw_cond _ rfl (fun h4 => ?_) (fun h4 => ?_)
    ·replace h4 : (decide (8 < (List.length a0.Turns : Int))) = true := h4;replace hR := condT hR h4;(try simp only [Bool.or_eq_true, Bool.and_eq_true, Bool.or_eq_false_iff, Bool.and_eq_false_iff, Bool.not_eq_true', Bool.not_eq_false', decide_eq_true_eq, decide_eq_false_iff_not] at h4);refine aw_seq ?_;refine Exists.elim (bindO_inv hR) (fun r6 hq_ => ?_);have br6 := hq_.1;replace hR := hq_.2;clear hq_;refine aw_region [.p, .p, .p, .p] ?_;refine st rfl rfl (eff_moveg rfl rfl) rfl ?_;refine st rfl rfl (eff_moveg rfl rfl) rfl ?_;refine st rfl rfl (eff_callS rfl K1035 rfl (c1035 r1.1 r1.2 22 [] br6) (sa_cons rfl (sa_cons rfl (sa_cons rfl (sa_nilS rfl sa_nil))))) rfl ?_;refine st rfl rfl (eff_assigng rfl rfl) rfl ?_;refine st_nil ?_;refine aw_ret ?_;exact res_e (res_c rfl (rv_g rfl)) (congrArg (fun R_ => G.bool R_) (Option.some.inj hR))
    ·replace h4 : (decide (8 < (List.length a0.Turns : Int))) = false := h4;replace hR := condF hR h4;(try simp only [Bool.or_eq_true, Bool.and_eq_true, Bool.or_eq_false_iff, Bool.and_eq_false_iff, Bool.not_eq_true', Bool.not_eq_false', decide_eq_true_eq, decide_eq_false_iff_not] at h4);refine aw_skip ?_;refine aw_seq ?_;refine Exists.elim (bindO_inv hR) (fun r7 hq_ => ?_);have br7 := hq_.1;replace hR := hq_.2;clear hq_;refine aw_region [.p, .p, .p, .p, .p, .p, .p, .p, .p, .p] ?_;refine st rfl rfl (eff_moveg rfl rfl) rfl ?_;refine st rfl rfl (eff_moveg rfl rfl) rfl ?_;refine st rfl rfl (eff_fieldAddr rfl fl1050_2 rfl) rfl ?_;refine st rfl rfl (eff_load rfl ty3 rfl) rfl ?_;refine st rfl rfl (eff_callS rfl K1037 rfl (c1037 (List.length (s1019 a0.Turns) + 1) (s1017 a0.Stands) (s1019 a0.Turns) a0.Buffer [] (by simp) (own37 (by omega)) br7) (sa_cons rfl (sa_cons rfl (sa_cons rfl (sa_nilS rfl sa_nil))))) rfl ?_;refine st rfl rfl (eff_moveg rfl rfl) rfl ?_;refine st rfl rfl (eff_extract rfl rfl rfl) rfl ?_;refine st rfl rfl (eff_extract rfl rfl rfl) rfl ?_;refine st rfl rfl (eff_assigng rfl rfl) rfl ?_;refine st rfl rfl (eff_assigng rfl rfl) rfl ?_;refine st_nil ?_;refine aw_seq ?_;refine Exists.elim (bindO_inv hR) (fun r8 hq_ => ?_);have br8 := hq_.1;replace hR := hq_.2;clear hq_;refine aw_region [.p, .p, .p, .p, .p, .p, .p, .p] ?_;refine st rfl rfl (eff_moveg rfl rfl) rfl ?_;refine st rfl rfl (eff_moveg rfl rfl) rfl ?_;refine st rfl rfl (eff_moveg rfl rfl) rfl ?_;refine st rfl rfl (eff_not rfl rfl) rfl ?_;refine st rfl rfl (eff_call rfl K1038 rfl (c1038 (!r7.2) 23) (ag_cons rfl (ag_cons rfl ag_nil))) rfl ?_;refine st rfl rfl (eff_moveg rfl rfl) rfl ?_;refine st rfl rfl (eff_call rfl K1035 rfl (c1035 r1.1 r1.2 (s1038 (!r7.2) 23) r7.1 br8) (ag_cons rfl (ag_cons rfl (ag_cons rfl (ag_cons rfl ag_nil))))) rfl ?_;refine st rfl rfl (eff_assigng rfl rfl) rfl ?_;refine st_nil ?_;refine aw_ret ?_;exact res_e (res_c rfl (rv_g rfl)) (congrArg (fun R_ => G.bool R_) (Option.some.inj hR))
def zs (l : List Nat) : List Int := l.map fun i : Nat => (i : Int)
def ovB (T : List S1124) (B : Int) (k i : Nat) : Bool := match T[k]?, T[i]? with | some a, some b => s1130 a b B | _, _ => false
def suB (S : List S1122) (T : List S1124) (i s : Nat) : Bool := match T[i]?, S[s]? with | some t, some x => s1128 t x | _, _ => false
def othN (T : List S1124) (B : Int) (i : Nat) : List Nat := (List.range T.length).filter fun k => decide (k ≠ i) && ovB T B k i
def takB (T : List S1124) (B : Int) (g : List Int) (i s : Nat) : Bool := (othN T B i).any fun k => decide (g[k]? = some (s : Int))
def frB (S : List S1122) (T : List S1124) (B : Int) (g : List Int) (i s : Nat) : Bool := suB S T i s && !takB T B g i s
def freeN (S : List S1122) (T : List S1124) (B : Int) (g : List Int) (i : Nat) : List Nat := (List.range S.length).filter fun s => frB S T B g i s
theorem zs_mem {l : List Nat} {i : Nat} : (i : Int) ∈ zs l ↔ i ∈ l := by
 unfold zs;rw [List.mem_map]
 constructor
 ·rintro ⟨a, h, e⟩
  have : a = i := by omega
  rw [← this]; exact h
 ·intro h; exact ⟨i, h, rfl⟩
theorem s1130_sym (a b : S1124) (B : Int) : s1130 a b B = s1130 b a B := by
 unfold s1130;rw [show max a.Start b.Start = max b.Start a.Start by omega, show min a.End b.End = min b.End a.End by omega]
theorem ovB_sym (T : List S1124) (B : Int) (k i : Nat) : ovB T B k i = ovB T B i k := by
 unfold ovB
 cases T[k]? <;> cases T[i]? <;> first | rfl | exact s1130_sym _ _ _
theorem suB_lt {S : List S1122} {T : List S1124} {i s : Nat} (h : suB S T i s = true) : s < S.length ∧ i < T.length := by
 unfold suB at h
 cases h1 : T[i]? with
 | none => rw [h1] at h; cases h
 | some t =>
  cases h2 : S[s]? with
  | none => rw [h1, h2] at h; cases h
  | some x => exact ⟨(List.getElem?_eq_some_iff.1 h2).1, (List.getElem?_eq_some_iff.1 h1).1⟩
theorem oth_l (p : S1190) (i : Nat) (hi : i < p.turns.length) : ∀ (t : List S1124) (k : Nat) (x : List Int), p.turns.drop k = t →
  s1141_l1 p (i : Int) t k x = some (x ++ zs ((List.range' k t.length).filter fun k => decide (k ≠ i) && ovB p.turns p.buffer k i))
 | [], k, x, _ => by simp [s1141_l1, zs]
 | y :: t, k, x, hd => by
  have hk : k < p.turns.length := by
   have q := congrArg List.length hd;rw [List.length_drop] at q; simp at q; omega
  rw [List.drop_eq_getElem_cons hk] at hd;obtain ⟨e1, e2⟩ := List.cons.inj hd;rw [s1141_l1, ixO_at hi];unfold s1141_j1;dsimp only;rw [List.length_cons, List.range'_succ, List.filter_cons]
  have ho : ovB p.turns p.buffer k i = s1130 y p.turns[i] p.buffer := by
   unfold ovB; rw [List.getElem?_eq_getElem hk, List.getElem?_eq_getElem hi, e1]
  rw [ho]
  by_cases hc : k = i
  ·have h1 : decide (((k : Nat) : Int) ≠ (i : Int)) = false := decide_eq_false (by omega);have h2 : decide (k ≠ i) = false := decide_eq_false (by omega);rw [h1, h2];simp only [cond_false, bindO, Bool.false_and, Bool.false_eq_true, if_false];exact oth_l p i hi t (k + 1) x e2
  ·have h1 : decide (((k : Nat) : Int) ≠ (i : Int)) = true := decide_eq_true (by omega);have h2 : decide (k ≠ i) = true := decide_eq_true hc;rw [h1, h2];simp only [cond_true, bindO, Bool.true_and]
   cases hs : s1130 y p.turns[i] p.buffer
   ·rw [cond_false];simp only [Bool.false_eq_true, if_false];exact oth_l p i hi t (k + 1) x e2
   ·rw [cond_true, oth_l p i hi t (k + 1) _ e2]
    simp [zs]
theorem oth_ok (p : S1190) (i : Nat) (hi : i < p.turns.length) : s1141 p (i : Int) = some (zs (othN p.turns p.buffer i)) := by
 unfold s1141 othN;rw [oth_l p i hi p.turns 0 [] rfl, List.nil_append, List.range_eq_range']
theorem any_ok {f : Int → Option Bool} {b : Int → Bool} : ∀ {l : List Int} {k : Nat}, (∀ x ∈ l, f x = some (b x)) → ∃ r, s1170p_l1 f l k = some r ∧ decide (0 ≤ r) = l.any b
 | [], k, _ => ⟨-1, rfl, rfl⟩
 | x :: l, k, h => by
  rw [s1170p_l1, h x List.mem_cons_self];simp only [bindO];rw [List.any_cons]
  cases hb : b x
  ·obtain ⟨r, h1, h2⟩ := any_ok (l := l) (k := k + 1) fun y hy => h y (List.mem_cons_of_mem _ hy);exact ⟨r, h1, by rw [h2, Bool.false_or]⟩
  ·exact ⟨_, rfl, by rw [Bool.true_or]; exact decide_eq_true (by omega)⟩
theorem cont_ok {f : Int → Option Bool} {b : Int → Bool} {l : List Int} (h : ∀ x ∈ l, f x = some (b x)) : s1140p l f = some (l.any b) := by
 obtain ⟨r, h1, h2⟩ := any_ok (k := 0) h;unfold s1140p s1170p;rw [h1];simp only [bindO];rw [h2]
theorem contains_l (x : Int) : ∀ (l : List Int) (k : Nat), decide (0 ≤ s190_l1 x l k) = decide (x ∈ l)
 | [], k => by simp [s190_l1]
 | y :: l, k => by
  rw [s190_l1]
  by_cases h : x = y
  ·rw [decide_eq_true h, cond_true, decide_eq_true (by omega), decide_eq_true (by rw [h]; exact List.mem_cons_self)]
  ·rw [decide_eq_false h, cond_false, contains_l x l]
   congr 1
   rw [eq_iff_iff, List.mem_cons];exact ⟨.inr, fun q => q.resolve_left h⟩
theorem contains_ok (l : List Int) (x : Int) : s144 l x = decide (x ∈ l) := contains_l x l 0
theorem tak_ok (p : S1190) (i s : Nat) (hg : p.given.length = p.turns.length) : s1140p (zs (othN p.turns p.buffer i)) (fun x0 => s1142 x0 p (s : Int)) = some (takB p.turns p.buffer p.given i s) := by
 have h : ∀ x ∈ zs (othN p.turns p.buffer i), s1142 x p (s : Int) = some (decide (p.given[x.toNat]? = some (s : Int))) := by
  intro x hx;obtain ⟨k, hk, rfl⟩ := List.mem_map.1 hx
  have hlt : k < p.given.length := by
   rw [hg]; exact List.mem_range.1 (List.mem_filter.1 hk).1
  unfold s1142;rw [ixO_at hlt];simp only [bindO];rw [Int.toNat_natCast, List.getElem?_eq_getElem hlt]
  simp
 rw [cont_ok h]
 congr 1
 unfold takB zs;rw [List.any_map]
 rfl
theorem free_l (p : S1190) (i : Nat) (hi : i < p.turns.length) (hg : p.given.length = p.turns.length) : ∀ (t : List S1122) (k : Nat) (x : List Int), p.stands.drop k = t →
  s1107_l1 p (i : Int) t k x = some (x ++ zs ((List.range' k t.length).filter fun s => frB p.stands p.turns p.buffer p.given i s))
 | [], k, x, _ => by simp [s1107_l1, zs]
 | y :: t, k, x, hd => by
  have hk : k < p.stands.length := by
   have q := congrArg List.length hd;rw [List.length_drop] at q; simp at q; omega
  rw [List.drop_eq_getElem_cons hk] at hd;obtain ⟨e1, e2⟩ := List.cons.inj hd;rw [s1107_l1, oth_ok p i hi];simp only [bindO];rw [tak_ok p i k hg, ixO_at hi]
  simp only
  unfold s1107_j1;dsimp only;rw [List.length_cons, List.range'_succ, List.filter_cons]
  have hf : frB p.stands p.turns p.buffer p.given i k = (s1128 p.turns[i] y && !takB p.turns p.buffer p.given i k) := by
   unfold frB suB; rw [List.getElem?_eq_getElem hk, List.getElem?_eq_getElem hi, e1]
  rw [hf]
  cases hs : s1128 p.turns[i] y && !takB p.turns p.buffer p.given i k
  ·rw [cond_false];simp only [Bool.false_eq_true, if_false];exact free_l p i hi hg t (k + 1) x e2
  ·rw [cond_true, free_l p i hi hg t (k + 1) _ e2]
   simp [zs]
theorem free_ok (p : S1190) (i : Nat) (hi : i < p.turns.length) (hg : p.given.length = p.turns.length) : s1107 p (i : Int) = some (zs (freeN p.stands p.turns p.buffer p.given i)) := by
 unfold s1107 freeN;rw [free_l p i hi hg p.stands 0 [] rfl, List.nil_append, List.range_eq_range']
theorem freeN_mem {S : List S1122} {T : List S1124} {B : Int} {g : List Int} {i s : Nat} : s ∈ freeN S T B g i ↔ frB S T B g i s = true := by
 unfold freeN;rw [List.mem_filter, List.mem_range];refine ⟨fun h => h.2, fun h => ⟨?_, h⟩⟩;unfold frB at h;rw [Bool.and_eq_true] at h;exact (suB_lt h.1).1
theorem freeN_nodup (S : List S1122) (T : List S1124) (B : Int) (g : List Int) (i : Nat) : (freeN S T B g i).Nodup := List.Pairwise.filter _ List.nodup_range
theorem pigeon : ∀ {F L : List Nat}, F.Nodup → (∀ x ∈ F, x ∈ L) → F.length ≤ L.length
 | [], _, _, _ => Nat.zero_le _
 | x :: F, L, hn, h => by
  rw [List.nodup_cons] at hn;have hx := h x List.mem_cons_self
  have ih := pigeon (F := F) (L := L.erase x) hn.2 fun y hy => by
   have hyx : y ≠ x := fun e => hn.1 (e ▸ hy);exact (List.mem_erase_of_ne hyx).2 (h y (List.mem_cons_of_mem _ hy))
  rw [List.length_erase_of_mem hx] at ih;have : 0 < L.length := List.length_pos_of_mem hx;rw [List.length_cons]; omega
theorem one_left {F L : List Nat} (hn : F.Nodup) (h : L.length < F.length) : ∃ x ∈ F, x ∉ L := by
 by_cases hc : ∃ x ∈ F, x ∉ L
 ·exact hc
 ·exfalso
  have := pigeon hn (L := L) fun x hx => by
   by_cases hl : x ∈ L
   ·exact hl
   ·exact absurd ⟨x, hx, hl⟩ hc
  omega
def Comp (S : List S1122) (T : List S1124) (B : Int) (g : List Int) (op : List Nat) : Prop :=
 ∃ f : Nat → Nat, (∀ i ∈ op, frB S T B g i (f i) = true) ∧ ∀ i ∈ op, ∀ k ∈ op, i ≠ k → ovB T B i k = true → f i ≠ f k
theorem comp_sub {S : List S1122} {T : List S1124} {B : Int} {g : List Int} {a b : List Nat} (h : Comp S T B g a) (hs : ∀ i ∈ b, i ∈ a) : Comp S T B g b := by
 obtain ⟨f, h1, h2⟩ := h;exact ⟨f, fun i hi => h1 i (hs i hi), fun i hi k hk => h2 i (hs i hi) k (hs k hk)⟩
theorem oth_mem {T : List S1124} {B : Int} {i k : Nat} : k ∈ othN T B i ↔ k < T.length ∧ k ≠ i ∧ ovB T B k i = true := by
 unfold othN; rw [List.mem_filter, List.mem_range]; simp
theorem comp_skip {S : List S1122} {T : List S1124} {B : Int} {g : List Int} {op : List Nat} {i : Nat} (hi : i ∈ op) (hn : op.Nodup) (hlt : ∀ k ∈ op, k < T.length) {L : List Nat} (hL : ∀ k ∈ othN T B i, k ∈ op → k ∈ L) (hlen : L.length < (freeN S T B g i).length) :
  Comp S T B g op ↔ Comp S T B g (op.erase i) := by
 refine ⟨fun h => comp_sub h fun k hk => List.mem_of_mem_erase hk, fun ⟨f, h1, h2⟩ => ?_⟩;obtain ⟨s, hs, hns⟩ := one_left (freeN_nodup S T B g i) (L := L.map f) (by rw [List.length_map]; exact hlen);have hs := freeN_mem.1 hs;have ne : ∀ k ∈ op, k ≠ i → ovB T B k i = true → f k ≠ s := fun k hk hki ho e => hns (e ▸ List.mem_map.2 ⟨k, hL k (oth_mem.2 ⟨hlt k hk, hki, ho⟩) hk, rfl⟩);refine ⟨fun k => if k = i then s else f k, fun k hk => ?_, fun a ha b hb hab ho => ?_⟩
 ·dsimp only
  by_cases hki : k = i
  ·rw [if_pos hki, hki]; exact hs
  ·rw [if_neg hki]; exact h1 k ((List.mem_erase_of_ne hki).2 hk)
 ·dsimp only
  by_cases hai : a = i
  ·by_cases hbi : b = i
   ·exact absurd (hai.trans hbi.symm) hab
   ·rw [if_pos hai, if_neg hbi];exact fun e => ne b hb hbi (by rw [ovB_sym, ← hai]; exact ho) e.symm
  ·by_cases hbi : b = i
   ·rw [if_neg hai, if_pos hbi];exact ne a ha hai (by rw [← hbi]; exact ho)
   ·rw [if_neg hai, if_neg hbi];exact h2 a ((List.mem_erase_of_ne hai).2 ha) b ((List.mem_erase_of_ne hbi).2 hb) hab ho
theorem tak_set {T : List S1124} {B : Int} {g : List Int} {i s k t : Nat} (hi : i < g.length) (hgi : g[i]? = some (-1)) (hki : k ≠ i) :
  takB T B (g.set i (s : Int)) k t = (takB T B g k t || (decide (i ∈ othN T B k) && decide (t = s))) := by
 rw [Bool.eq_iff_iff, Bool.or_eq_true, Bool.and_eq_true];unfold takB;rw [List.any_eq_true, List.any_eq_true];simp only [decide_eq_true_eq]
 constructor
 ·rintro ⟨m, hm, he⟩
  by_cases hmi : i = m
  ·subst hmi;rw [List.getElem?_set_self hi] at he;simp only [Option.some.injEq] at he;exact .inr ⟨hm, by omega⟩
  ·rw [List.getElem?_set_ne hmi] at he;exact .inl ⟨m, hm, he⟩
 ·rintro (⟨m, hm, he⟩ | ⟨h1, h2⟩)
  ·by_cases hmi : i = m
   ·subst hmi;rw [hgi] at he;simp only [Option.some.injEq] at he
    omega
   ·exact ⟨m, hm, by rw [List.getElem?_set_ne hmi]; exact he⟩
  ·exact ⟨i, h1, by rw [List.getElem?_set_self hi, h2]⟩
theorem comp_pick {S : List S1122} {T : List S1124} {B : Int} {g : List Int} {op rest : List Nat} {i : Nat} (hi : i ∈ op) (hlt : ∀ k ∈ op, k < T.length) (hg : g.length = T.length) (hu : g[i]? = some (-1)) (hr : ∀ k, k ∈ rest ↔ k ∈ op ∧ k ≠ i) :
  Comp S T B g op ↔ ∃ s, frB S T B g i s = true ∧ Comp S T B (g.set i (s : Int)) rest := by
 have hil : i < g.length := by rw [hg]; exact hlt i hi
 constructor
 ·rintro ⟨f, h1, h2⟩;refine ⟨f i, h1 i hi, f, fun k hk => ?_, fun a ha b hb => h2 a ((hr a).1 ha).1 b ((hr b).1 hb).1⟩;obtain ⟨hk1, hk2⟩ := (hr k).1 hk;have h3 := h1 k hk1;unfold frB at h3 ⊢;rw [Bool.and_eq_true] at h3 ⊢;refine ⟨h3.1, ?_⟩;rw [tak_set hil hu hk2]
  have h4 : takB T B g k (f k) = false := by simpa using h3.2
  rw [h4, Bool.false_or]
  by_cases ho : i ∈ othN T B k
  ·have := h2 i hi k hk1 (fun e => hk2 e.symm) (oth_mem.1 ho).2.2;rw [show decide (f k = f i) = false from decide_eq_false fun e => this e.symm, Bool.and_false]; rfl
  ·simp [ho]
 ·rintro ⟨s, hs, f, h1, h2⟩
  have hk' : ∀ k ∈ rest, frB S T B g k (f k) = true ∧ (ovB T B i k = true → f k ≠ s) := by
   intro k hk;obtain ⟨hk1, hk2⟩ := (hr k).1 hk;have h3 := h1 k hk;unfold frB at h3;rw [Bool.and_eq_true, tak_set hil hu hk2] at h3;simp only [Bool.not_eq_true', Bool.or_eq_false_iff] at h3;refine ⟨by unfold frB; rw [h3.1, h3.2.1]; rfl, fun ho e => ?_⟩;have : i ∈ othN T B k := oth_mem.2 ⟨hlt i hi, fun e => hk2 e.symm, ho⟩;have h4 := h3.2.2;rw [decide_eq_true this, decide_eq_true e] at h4
   cases h4
  refine ⟨fun k => if k = i then s else f k, fun k hk => ?_, fun a ha b hb hab ho => ?_⟩
  ·dsimp only
   by_cases hki : k = i
   ·rw [if_pos hki, hki]; exact hs
   ·rw [if_neg hki]; exact (hk' k ((hr k).2 ⟨hk, hki⟩)).1
  ·dsimp only
   by_cases hai : a = i
   ·by_cases hbi : b = i
    ·exact absurd (hai.trans hbi.symm) hab
    ·rw [if_pos hai, if_neg hbi];exact fun e => (hk' b ((hr b).2 ⟨hb, hbi⟩)).2 (by rw [← hai]; exact ho) e.symm
   ·by_cases hbi : b = i
    ·rw [if_neg hai, if_pos hbi];exact (hk' a ((hr a).2 ⟨ha, hai⟩)).2 (by rw [ovB_sym, ← hbi]; exact ho)
    ·rw [if_neg hai, if_neg hbi];exact h2 a ((hr a).2 ⟨ha, hai⟩) b ((hr b).2 ⟨hb, hbi⟩) hab ho
structure Opn (T : List S1124) (g : List Int) (op : List Nat) : Prop where
 lt : ∀ k ∈ op, k < T.length
 un : ∀ k ∈ op, g[k]? = some (-1)
 nd : op.Nodup
theorem Opn.sub {T : List S1124} {g : List Int} {a b : List Nat} (h : Opn T g a) (hs : ∀ i ∈ b, i ∈ a) (hn : b.Nodup) : Opn T g b := ⟨fun k hk => h.lt k (hs k hk), fun k hk => h.un k (hs k hk), hn⟩
theorem riv_l (self : S1190 → List Int → Option Bool) (rec1 : Nat → List Int → Int → Option Bool) (p : S1190) (a1 : List Int) (x1 : List Int) (x3 : Int) (k4 : Nat) (y5 : Int) (r11 : List Int) (c : Nat → Bool)
  : ∀ (t : List Nat) (k15 : Nat) (x : Int), (∀ k ∈ t, ∃ v, p.given[k]? = some v ∧ (decide (v < 0) && s144 a1 (k : Int)) = c k) → 0 ≤ x → x + (t.length : Int) ≤ 100000 →
   s1109_l2 self rec1 p a1 x1 x3 k4 y5 r11 (zs t) k15 x = s1109_l2 self rec1 p a1 x1 x3 k4 y5 r11 [] 0 (x + ((t.filter c).length : Int))
 | [], k15, x, _, _, _ => by
  rw [List.filter_nil, List.length_nil, show ((0 : Nat) : Int) = 0 from rfl, Int.add_zero];show s1109_l2 self rec1 p a1 x1 x3 k4 y5 r11 [] k15 x = _;rw [s1109_l2, s1109_l2]
 | k :: t, k15, x, h, q0, q1 => by
  obtain ⟨v, h1, h2⟩ := h k List.mem_cons_self;have hlt : k < p.given.length := (List.getElem?_eq_some_iff.1 h1).1;rw [List.length_cons] at q1;show s1109_l2 self rec1 p a1 x1 x3 k4 y5 r11 ((k : Int) :: zs t) k15 x = _
  conv => lhs; rw [s1109_l2]
  have hix : ixO p.given (k : Int) = some v := by unfold ixO; rw [decide_eq_true (by omega), cond_true, Int.toNat_natCast]; exact h1
  rw [hix];simp only [bindO];rw [h2];unfold s1109_j2;dsimp only;rw [List.filter_cons]
  cases hc : c k
  ·rw [cond_false];simp only [Bool.false_eq_true, if_false];exact riv_l self rec1 p a1 x1 x3 k4 y5 r11 c t _ x (fun k hk => h k (List.mem_cons_of_mem _ hk)) q0 (by omega)
  ·rw [cond_true, if_pos rfl, wrap_i64 (by unfold I64; omega)];rw [riv_l self rec1 p a1 x1 x3 k4 y5 r11 c t _ (x + 1) (fun k hk => h k (List.mem_cons_of_mem _ hk)) (by omega) (by omega), List.length_cons]
   congr 1; push_cast; omega
theorem zs_len (l : List Nat) : (zs l).length = l.length := by unfold zs; rw [List.length_map]
theorem poss_l1 {S : List S1122} {T : List S1124} {B : Int} {g : List Int} (hg : g.length = T.length) (hT : T.length ≤ 1000) {op : List Nat} (ho : Opn T g op) (self : S1190 → List Int → Option Bool)
  (hself : ∀ (g' : List Int) (op' : List Nat), g'.length = T.length → Opn T g' op' → op'.length < op.length → ∃ b, self ⟨S, T, B, g'⟩ (zs op') = some b ∧ (b = true ↔ Comp S T B g' op')) :
  ∀ (t pre : List Nat) (x1 : List Int) (x3 : Int), pre ++ t = op → ((x3 = -1 ∧ pre = []) ∨ ∃ i ∈ op, x3 = (i : Int) ∧ x1 = zs (freeN S T B g i)) →
   ∃ b, s1109_l1 self ⟨S, T, B, g⟩ (zs op) (zs t) pre.length x1 x3 = some b ∧ (b = true ↔ Comp S T B g op)
 | [], pre, x1, x3, hp, hI => by
  rw [List.append_nil] at hp;subst hp;show ∃ b, s1109_l1 self ⟨S, T, B, g⟩ (zs pre) [] pre.length x1 x3 = some b ∧ _;rw [s1109_l1]
  rcases hI with ⟨rfl, rfl⟩ | ⟨i, hi, rfl, rfl⟩
  ·exact ⟨true, rfl, fun _ => ⟨fun _ => 0, by simp, by simp⟩, fun _ => rfl⟩
  ·rw [decide_eq_false (by omega), cond_false];obtain ⟨L, h1, h2, _⟩ := s1146_ok (zs pre) (fun x0 => s1147 x0 (i : Int));rw [h1];simp only [bindO];rw [h2]
   have hrest : ((zs pre).filter fun y => !(s1147 y (i : Int))) = zs (pre.erase i) := by
    rw [List.Nodup.erase_eq_filter ho.nd i];unfold zs;rw [List.filter_map]
    congr 1
    refine List.filter_congr fun k _ => ?_;unfold s1147;simp only [Function.comp];rw [show decide ((k : Int) = (i : Int)) = decide (k = i) by congr 1; rw [eq_iff_iff]; omega]
    by_cases h : k = i <;> simp [h]
   rw [hrest]
   have hmem : ∀ k, k ∈ pre.erase i ↔ k ∈ pre ∧ k ≠ i := fun k => by
    rw [List.Nodup.mem_erase_iff ho.nd]; exact And.comm
   have hil : i < g.length := by rw [hg]; exact ho.lt i hi
   have hlen : (pre.erase i).length < pre.length := by
    rw [List.length_erase_of_mem hi];have := List.length_pos_of_mem hi; omega
   have hb : ∀ s, ∃ b, s1148 self ((s : Nat) : Int) ⟨S, T, B, g⟩ (i : Int) (zs (pre.erase i)) = some b ∧ (b = true ↔ Comp S T B (g.set i (s : Int)) (pre.erase i)) := by
    intro s;obtain ⟨b, b1, b2⟩ := hself (g.set i (s : Int)) (pre.erase i) (by rw [List.length_set]; exact hg)
     ⟨fun k hk => ho.lt k ((hmem k).1 hk).1, fun k hk => by rw [List.getElem?_set_ne (fun e => ((hmem k).1 hk).2 e.symm)]; exact ho.un k ((hmem k).1 hk).1, ho.nd.erase i⟩ hlen
    refine ⟨b, ?_, b2⟩;unfold s1148;rw [with_eq, if_pos ⟨by omega, by rw [Int.toNat_natCast]; exact hil⟩];simp only [bindO];rw [Int.toNat_natCast, b1]
   have hany := cont_ok (l := zs (freeN S T B g i)) (f := fun x0 => s1148 self x0 ⟨S, T, B, g⟩ (i : Int) (zs (pre.erase i))) (b := fun x => (s1148 self x ⟨S, T, B, g⟩ (i : Int) (zs (pre.erase i))).getD false) (fun x hx => by
    obtain ⟨s, _, rfl⟩ := List.mem_map.1 hx;obtain ⟨b, b1, _⟩ := hb s
    rw [b1]; rfl)
   rw [hany];refine ⟨_, rfl, ?_⟩;rw [comp_pick hi ho.lt hg (ho.un i hi) hmem, List.any_eq_true]
   constructor
   ·rintro ⟨x, hx, hx2⟩;obtain ⟨s, hs, rfl⟩ := List.mem_map.1 hx;obtain ⟨b, b1, b2⟩ := hb s;rw [b1] at hx2;exact ⟨s, freeN_mem.1 hs, b2.1 hx2⟩
   ·rintro ⟨s, hs, hc⟩;obtain ⟨b, b1, b2⟩ := hb s;exact ⟨(s : Int), List.mem_map.2 ⟨s, freeN_mem.2 hs, rfl⟩, by rw [b1]; exact b2.2 hc⟩
 | y :: t, pre, x1, x3, hp, hI => by
  have hy : y ∈ op := by rw [← hp]; simp
  have hyT := ho.lt y hy;show ∃ b, s1109_l1 self ⟨S, T, B, g⟩ (zs op) ((y : Int) :: zs t) pre.length x1 x3 = some b ∧ _;rw [s1109_l1, free_ok ⟨S, T, B, g⟩ y hyT hg, oth_ok ⟨S, T, B, g⟩ y hyT];simp only [bindO];have hoth : ∀ k ∈ othN T B y, k < T.length := fun k hk => (oth_mem.1 hk).1
  have hol : (othN T B y).length ≤ 1000 := by
   have := List.length_filter_le (fun k => decide (k ≠ y) && ovB T B k y) (List.range T.length);rw [List.length_range] at this;unfold othN; omega
  have hc : ∀ k ∈ othN T B y, ∃ v, (⟨S, T, B, g⟩ : S1190).given[k]? = some v ∧ (decide (v < 0) && s144 (zs op) (k : Int)) = (decide ((g.getD k 0) < 0) && decide (k ∈ op)) := by
   intro k hk
   have hkl : k < g.length := by rw [hg]; exact hoth k hk
   refine ⟨g[k], List.getElem?_eq_getElem hkl, ?_⟩;rw [contains_ok, List.getD_eq_getElem?_getD, List.getElem?_eq_getElem hkl]
   congr 1
   congr 1
   rw [eq_iff_iff]; exact zs_mem
  rw [riv_l self _ ⟨S, T, B, g⟩ (zs op) x1 x3 pre.length (y : Int) _ (fun k => decide ((g.getD k 0) < 0) && decide (k ∈ op)) (othN T B y) 0 0 hc (Int.le_refl _) (by omega)];rw [s1109_l2, zs_len, Int.zero_add]
  have hp2 : (pre ++ [y]) ++ t = op := by rw [List.append_assoc]; exact hp
  have hlen : pre.length + 1 = (pre ++ [y]).length := by simp
  by_cases hr : (((othN T B y).filter fun k => decide ((g.getD k 0) < 0) && decide (k ∈ op)).length : Int) < ((freeN S T B g y).length : Int)
  ·rw [decide_eq_true hr, cond_true]
   have hkl : pre.length < op.length := by rw [← hp]; simp
   have hd := (del_eq (zs op) ((pre.length : Nat) : Int) (((pre.length : Nat) : Int) + 1) (by omega) (by omega) (by rw [zs_len]; omega)).2;rw [hd]
   have he : List.take (((pre.length : Nat) : Int)).toNat (zs op) ++ List.drop (((pre.length : Nat) : Int) + 1).toNat (zs op) = zs (pre ++ t) := by
    rw [Int.toNat_natCast, show (((pre.length : Nat) : Int) + 1).toNat = pre.length + 1 by omega, ← hp];unfold zs;rw [← List.map_take, ← List.map_drop, ← List.map_append, List.take_left, hlen, show pre ++ y :: t = (pre ++ [y]) ++ t by simp, List.drop_left]
   rw [he]
   have hnd : (pre ++ y :: t).Nodup := by rw [hp]; exact ho.nd
   have hynp : y ∉ pre := fun h => (List.nodup_append.1 hnd).2.2 y h y (by simp) rfl
   have her : op.erase y = pre ++ t := by
    rw [← hp, List.erase_append_right _ hynp, List.erase_cons_head]
   obtain ⟨b, b1, b2⟩ := hself g (op.erase y) hg (ho.sub (fun i hi => List.mem_of_mem_erase hi) (ho.nd.erase y)) (by
    rw [List.length_erase_of_mem hy]; have := List.length_pos_of_mem hy; omega)
   rw [her] at b1;rw [b1];refine ⟨b, rfl, b2.trans (comp_skip hy ho.nd ho.lt (L := (othN T B y).filter fun k => decide ((g.getD k 0) < 0) && decide (k ∈ op)) (fun k hk hko => ?_) (by omega)).symm⟩;rw [List.mem_filter];refine ⟨hk, ?_⟩;rw [List.getD_eq_getElem?_getD, ho.un k hko]
   simp [hko]
  ·rw [decide_eq_false hr, cond_false];unfold s1109_j1;dsimp only;rw [hlen]
   cases hcc : (decide (x3 < 0)) || (decide (((freeN S T B g y).length : Int) < (x1.length : Int)))
   ·rw [cond_false];refine poss_l1 hg hT ho self hself t (pre ++ [y]) x1 x3 hp2 ?_
    rcases hI with ⟨rfl, _⟩ | h
    ·simp at hcc
    ·exact .inr h
   ·rw [cond_true];exact poss_l1 hg hT ho self hself t (pre ++ [y]) _ _ hp2 (.inr ⟨y, hy, rfl, rfl⟩)
theorem poss_ok {S : List S1122} {T : List S1124} {B : Int} (hT : T.length ≤ 1000) : ∀ (n : Nat) (g : List Int) (op : List Nat), g.length = T.length → Opn T g op → op.length < n → ∃ b, s1109 n ⟨S, T, B, g⟩ (zs op) = some b ∧ (b = true ↔ Comp S T B g op)
 | 0, _, _, _, _, h => by omega
 | n + 1, g, op, hg, ho, h => by
  rw [s1109];exact poss_l1 hg hT ho _ (fun g' op' hg' ho' hl => poss_ok hT n g' op' hg' ho' (by omega)) op [] [] (-1) rfl (.inl ⟨rfl, rfl⟩)
def gb (n : Nat) (b : List Int) : List Int := b ++ List.replicate (n - b.length) (-1)
theorem gb_len {n : Nat} {b : List Int} (h : b.length ≤ n) : (gb n b).length = n := by unfold gb; simp; omega
theorem gb_full {n : Nat} {b : List Int} (h : b.length = n) : gb n b = b := by unfold gb; rw [h, Nat.sub_self]; simp
theorem gb_un {n : Nat} {b : List Int} {i : Nat} (h : b.length ≤ i) (h2 : i < n) : (gb n b)[i]? = some (-1) := by
 unfold gb;rw [List.getElem?_append_right h, List.getElem?_replicate, if_pos (by omega)]
theorem gb_lo {n : Nat} {b : List Int} {i : Nat} (h : i < b.length) : (gb n b)[i]? = b[i]? := by
 unfold gb; rw [List.getElem?_append_left h]
theorem gb_set {n : Nat} {b : List Int} (h : b.length < n) (s : Int) : (gb n b).set b.length s = gb n (b ++ [s]) := by
 unfold gb;obtain ⟨m, hm⟩ : ∃ m, n - b.length = m + 1 := ⟨n - b.length - 1, by omega⟩;rw [hm, List.replicate_succ, List.set_append_right _ _ (Nat.le_refl _), Nat.sub_self, List.set_cons_zero, List.append_assoc]
 congr 2
 rw [List.length_append, List.length_singleton, show n - (b.length + 1) = m by omega]
 rfl
def res (S : List S1122) (T : List S1124) (B : Int) : Nat → List Int → Option (List Int)
 | 0, b => some b
 | k + 1, b => (List.range S.length).findSome? fun s => if frB S T B (gb T.length b) b.length s = true then res S T B k (b ++ [(s : Int)]) else none
theorem opn_gb {T : List S1124} {b : List Int} {k : Nat} (h : b.length + k = T.length) : Opn T (gb T.length b) (List.range' b.length k) :=
 ⟨fun i hi => by have := List.mem_range'_1.1 hi; omega, fun i hi => by have := List.mem_range'_1.1 hi; exact gb_un this.1 (by omega), List.nodup_range'⟩
theorem comp_res {S : List S1122} {T : List S1124} {B : Int} : ∀ (k : Nat) (b : List Int), b.length + k = T.length → (Comp S T B (gb T.length b) (List.range' b.length k) ↔ (res S T B k b).isSome = true)
 | 0, b, h => ⟨fun _ => rfl, fun _ => ⟨fun _ => 0, by simp, by simp⟩⟩
 | k + 1, b, h => by
  have ho := opn_gb h;have hop : List.range' b.length (k + 1) = b.length :: List.range' (b.length + 1) k := List.range'_succ
  rw [comp_pick (rest := List.range' (b.length + 1) k) (i := b.length) (by rw [hop]; exact List.mem_cons_self) ho.lt (gb_len (by omega)) (gb_un (Nat.le_refl _) (by omega)) (fun j => by
   rw [List.mem_range'_1, List.mem_range'_1]; omega)]
  rw [res, List.findSome?_isSome_iff]
  constructor
  ·rintro ⟨s, hs, hc⟩;have hs2 := hs;unfold frB at hs2;rw [Bool.and_eq_true] at hs2;refine ⟨s, List.mem_range.2 (suB_lt hs2.1).1, ?_⟩;rw [if_pos hs, ← comp_res k (b ++ [(s : Int)]) (by simp; omega)];rw [gb_set (by omega)] at hc
   simpa using hc
  ·rintro ⟨s, _, hs⟩
   by_cases hf : frB S T B (gb T.length b) b.length s = true
   ·rw [if_pos hf, ← comp_res k (b ++ [(s : Int)]) (by simp; omega)] at hs;refine ⟨s, hf, ?_⟩;rw [gb_set (by omega)]
    simpa using hs
   ·rw [if_neg hf] at hs; cases hs
theorem find_filter {α β : Type} {p : α → Bool} {f : α → Option β} : ∀ {l : List α}, (l.filter p).findSome? f = l.findSome? fun x => if p x = true then f x else none
 | [] => rfl
 | x :: l => by
  rw [List.filter_cons, List.findSome?_cons]
  by_cases h : p x = true
  ·rw [if_pos h, if_pos h, List.findSome?_cons, find_filter]
  ·rw [if_neg h, if_neg h, find_filter]
def outT (S : List S1122) (T : List S1124) (B : Int) (g : List Int) : Option (List Int) → Bool × S1190
 | some L => (true, ⟨S, T, B, L⟩)
 | none => (false, ⟨S, T, B, g⟩)
theorem take_l1 {S : List S1122} {T : List S1124} {B : Int} (hT : T.length ≤ 1000) (self : List Int → S1190 → Option (Bool × S1190)) (k : Nat) (b : List Int) (hb : b.length + (k + 1) = T.length)
  (hself : ∀ s : Nat, self (zs (List.range' (b.length + 1) k)) ⟨S, T, B, gb T.length (b ++ [(s : Int)])⟩ = some (outT S T B (gb T.length (b ++ [(s : Int)])) (res S T B k (b ++ [(s : Int)])))) :
  ∀ (t : List Nat) (k4 : Nat), s1106_l1 self (zs (List.range' b.length (k + 1))) ⟨S, T, B, gb T.length b⟩ (zs t) k4 = some (outT S T B (gb T.length b) (t.findSome? fun s : Nat => res S T B k (b ++ [(s : Int)])))
 | [], k4 => rfl
 | s :: t, k4 => by
  show s1106_l1 self _ _ ((s : Int) :: zs t) k4 = _
  have hop : zs (List.range' b.length (k + 1)) = (b.length : Int) :: zs (List.range' (b.length + 1) k) := by rw [List.range'_succ]; rfl
  rw [s1106_l1]
  have h0 : ixO (zs (List.range' b.length (k + 1))) 0 = some (b.length : Int) := by rw [hop]; rfl
  have hd : List.drop (Int.toNat 1) (zs (List.range' b.length (k + 1))) = zs (List.range' (b.length + 1) k) := by rw [hop]; rfl
  rw [h0, hd];simp only [bindO];rw [with_eq, if_pos ⟨by omega, by rw [Int.toNat_natCast]; show b.length < (gb T.length b).length; rw [gb_len (by omega)]; omega⟩];simp only [Int.toNat_natCast];rw [gb_set (by omega)]
  have hb2 : (b ++ [(s : Int)]).length + k = T.length := by simp; omega
  have ho := opn_gb hb2
  have hl : (b ++ [(s : Int)]).length = b.length + 1 := by simp
  rw [hl] at ho;obtain ⟨r, r1, r2⟩ := poss_ok (S := S) (B := B) hT ((zs (List.range' b.length (k + 1))).length + 1) (gb T.length (b ++ [(s : Int)])) (List.range' (b.length + 1) k) (gb_len (by omega)) ho (by rw [zs_len, List.length_range', List.length_range']; omega);rw [r1]
  simp only
  have hc := comp_res (S := S) (B := B) k (b ++ [(s : Int)]) hb2;rw [hl] at hc;rw [List.findSome?_cons]
  cases hr : res S T B k (b ++ [(s : Int)]) with
  | some L =>
   have : r = true := r2.2 (hc.2 (by rw [hr]; rfl));rw [this, cond_true, hself s, hr]
   rfl
  | none =>
   have : r = false := by
    cases r with
    | false => rfl
    | true => have := hc.1 (r2.1 rfl); rw [hr] at this; cases this
   rw [this, cond_false];exact take_l1 hT self k b hb hself t _
theorem take_ok {S : List S1122} {T : List S1124} {B : Int} (hT : T.length ≤ 1000) : ∀ (k : Nat) (b : List Int) (fuel : Nat), b.length + k = T.length → k < fuel →
  s1106 fuel (zs (List.range' b.length k)) ⟨S, T, B, gb T.length b⟩ = some (outT S T B (gb T.length b) (res S T B k b))
 | _, _, 0, _, h => by omega
 | 0, b, fuel + 1, hb, _ => by
  rw [s1106, zs_len];simp only [List.range'_zero, List.length_nil];rw [show decide (((0 : Nat) : Int) = 0) = true from rfl, cond_true];show _ = some (true, (⟨S, T, B, b⟩ : S1190));rw [gb_full (by omega)]
 | k + 1, b, fuel + 1, hb, h => by
  rw [s1106, zs_len, List.length_range', decide_eq_false (by omega), cond_false]
  have hop : zs (List.range' b.length (k + 1)) = (b.length : Int) :: zs (List.range' (b.length + 1) k) := by rw [List.range'_succ]; rfl
  have h0 : ixO (zs (List.range' b.length (k + 1))) 0 = some (b.length : Int) := by rw [hop]; rfl
  rw [h0];simp only [bindO];rw [free_ok ⟨S, T, B, gb T.length b⟩ b.length (by show b.length < T.length; omega) (gb_len (by omega))]
  simp only
  rw [take_l1 hT _ k b hb (fun s => by
   have := take_ok hT k (b ++ [(s : Int)]) fuel (by simp; omega) (by omega) (S := S) (B := B);rw [show (b ++ [(s : Int)]).length = b.length + 1 by simp] at this
   exact this)]
  rw [res];unfold freeN;rw [find_filter]
def W (a : S1063) (l : List S1079) (b : Int) : Int := ((l.filter (fun m => (s1113 a m && decide (b ≤ m.Moment)) && decide (m.Moment < b + a.Length))).map S1079.Seats).sum
def top (f : Int → Bool) : Nat → Option Int
 | 0 => none
 | n + 1 => if f ((n : Int) + 1) = true then some ((n : Int) + 1) else top f n
def fin : Option (Int × Int) → S1106 × Int
 | some (m, s) => (⟨m, s⟩, 0)
 | none => (⟨0, 0⟩, 7)
theorem as_l2 {a1 : List S1124} {a2 : Int} {a3 : List Int} (ht : ∀ t ∈ a1, TurnOk t) (b0 : 0 ≤ a2) (b1 : a2 ≤ 240) (hl : a3.length = a1.length) (r : Nat → Option Int) (k2 : Nat) (y3 : Int) (yT : S1124) (g3 : a3[k2]? = some y3) (g1 : a1[k2]? = some yT) :
  ∀ (n x : Nat), x + n = k2 → s1110_l2 r a1 a2 a3 k2 y3 n (x : Int) = s1036_l2 r a1 a2 a3 k2 yT n (x : Int) ∧ (s1036_l2 r a1 a2 a3 k2 yT n (x : Int) = some 15 ∨ s1036_l2 r a1 a2 a3 k2 yT n (x : Int) = r (k2 + 1))
 | 0, x, _ => ⟨rfl, .inr rfl⟩
 | n + 1, x, h => by
  have hk : k2 < a1.length := (List.getElem?_eq_some_iff.1 g1).1;have ih := as_l2 ht b0 b1 hl r k2 y3 yT g3 g1 n (x + 1) (by omega);have q1 : ixO a3 (x : Int) = some a3[x] := ixO_at (by omega);have q2 : ixO a1 (x : Int) = some a1[x] := ixO_at (by omega)
  have q3 : ixO a3 (k2 : Int) = some y3 := by unfold ixO; rw [decide_eq_true (by omega), cond_true, Int.toNat_natCast]; exact g3
  have q4 : ixO a1 (k2 : Int) = some yT := by unfold ixO; rw [decide_eq_true (by omega), cond_true, Int.toNat_natCast]; exact g1
  have hT : TurnOk yT := ht _ (List.mem_of_getElem? g1);have hX : TurnOk a1[x] := ht _ (List.getElem_mem _);rw [s1110_l2, s1036_l2, q1, q2, q3, q4];simp only [bindO]
  have e : (x : Int) + 1 = ((x + 1 : Nat) : Int) := by push_cast; rfl
  rw [e]
  cases hc : decide (a3[x] = y3) with
  | false => simp only [cond_false, Bool.false_and]; exact ih
  | true =>
   simp only [cond_true, Bool.true_and];rw [overlap_eq hX hT b0 b1]
   cases hd : s1070 a1[x] yT a2 with
   | true => exact ⟨rfl, .inl rfl⟩
   | false => rw [cond_false]; exact ih
theorem as_l1 {a0 : List S1122} {a1 : List S1124} {a2 : Int} {a3 : List Int} (ht : ∀ t ∈ a1, TurnOk t) (b0 : 0 ≤ a2) (b1 : a2 ≤ 240) (hl : a3.length = a1.length) :
  ∀ (t3 : List Int) (t1 : List S1124) (k : Nat), a3.drop k = t3 → a1.drop k = t1 → ∃ e, s1110_l1 a0 a1 a2 a3 t3 k = some e ∧ s1036_l1 a0 a1 a2 a3 t1 k = some e ∧ (e = 0 → ∀ y ∈ t3, 0 ≤ y ∧ y < (a0.length : Int))
 | [], t1, k, h3, h1 => by
  have : t1 = [] := by
   have q := congrArg List.length h3;have q1 := congrArg List.length h1;rw [List.length_drop] at q q1
   simp at q
   exact List.eq_nil_of_length_eq_zero (by omega)
  subst this;exact ⟨0, rfl, rfl, fun _ => by simp⟩
 | y3 :: t3, t1, k, h3, h1 => by
  have hk : k < a3.length := by
   have q := congrArg List.length h3;rw [List.length_drop] at q; simp at q; omega
  have hk1 : k < a1.length := by omega
  rw [List.drop_eq_getElem_cons hk] at h3;obtain ⟨e3, h3'⟩ := List.cons.inj h3;rw [List.drop_eq_getElem_cons hk1] at h1;subst h1
  have g3 : a3[k]? = some y3 := by rw [List.getElem?_eq_getElem hk, e3]
  have g1 : a1[k]? = some a1[k] := List.getElem?_eq_getElem hk1
  have q3 : ixO a3 (k : Int) = some y3 := by unfold ixO; rw [decide_eq_true (by omega), cond_true, Int.toNat_natCast]; exact g3
  have q4 : ixO a1 (k : Int) = some a1[k] := ixO_at hk1;rw [s1110_l1, s1036_l1, q3, q4];simp only [bindO]
  by_cases c1 : y3 < 0
  ·rw [decide_eq_true c1];exact ⟨10, rfl, rfl, fun h => by cases h⟩
  ·rw [decide_eq_false c1];simp only [Bool.not_false, cond_true, q3, Bool.false_or]
   by_cases c2 : (a0.length : Int) ≤ y3
   ·rw [decide_eq_true c2];exact ⟨10, rfl, rfl, fun h => by cases h⟩
   ·rw [decide_eq_false c2, cond_false, cond_false]
    have q5 : ixO a0 y3 = some (a0[y3.toNat]'(by omega)) := by unfold ixO; rw [decide_eq_true (by omega), cond_true, List.getElem?_eq_getElem (by omega)]
    rw [q5]
    simp only
    rw [suits_eq]
    cases hs : s1068 (a0[y3.toNat]'(by omega)) a1[k] with
    | false => exact ⟨18, rfl, rfl, fun h => by cases h⟩
    | true =>
     rw [Bool.not_true, cond_false, cond_false];obtain ⟨e, i1, i2, i3⟩ := as_l1 (a0 := a0) ht b0 b1 hl t3 (a1.drop (k + 1)) (k + 1) h3' rfl
     have hz : ((((k : Nat) : Int) - 0).toNat) = k := by omega
     rw [hz];have l1 := as_l2 ht b0 b1 hl (fun k_ => s1110_l1 a0 a1 a2 a3 t3 k_) k y3 a1[k] g3 g1 k 0 (by omega);have l2 := as_l2 ht b0 b1 hl (fun k_ => s1036_l1 a0 a1 a2 a3 (a1.drop (k + 1)) k_) k y3 a1[k] g3 g1 k 0 (by omega)
     have l3 : s1036_l2 (fun k_ => s1110_l1 a0 a1 a2 a3 t3 k_) a1 a2 a3 k a1[k] k 0 = s1036_l2 (fun k_ => s1036_l1 a0 a1 a2 a3 (a1.drop (k + 1)) k_) a1 a2 a3 k a1[k] k 0 :=
      as_rec (by show s1110_l1 a0 a1 a2 a3 t3 (k + 1) = _; rw [i1, i2]) k 0
     rw [show ((0 : Nat) : Int) = 0 from rfl] at l1 l2;rw [l1.1, l3]
     rcases l2.2 with h | h
     ·exact ⟨15, h, h, fun h => by cases h⟩
     ·refine ⟨e, by rw [h]; exact i2, by rw [h]; exact i2, fun he y hy => ?_⟩
      rcases List.mem_cons.1 hy with rfl | hy
      ·omega
      ·exact i3 he y hy
where as_rec {a1 : List S1124} {a2 : Int} {a3 : List Int} {r r' : Nat → Option Int} {k2 : Nat} {yT : S1124} (h : r (k2 + 1) = r' (k2 + 1)) : ∀ (n : Nat) (x : Int), s1036_l2 r a1 a2 a3 k2 yT n x = s1036_l2 r' a1 a2 a3 k2 yT n x
 | 0, x => h
 | n + 1, x => by
  rw [s1036_l2, s1036_l2];have e : s1036_l2 r a1 a2 a3 k2 yT n (x + 1) = s1036_l2 r' a1 a2 a3 k2 yT n (x + 1) := as_rec h n (x + 1);rw [e]
theorem assign_eq {a0 : List S1122} {a1 : List S1124} {a2 : Int} {a3 : List Int} (hz : s1104 a0 a1 a2 = 0) :
  ∃ e, s1033 a0 a1 a2 a3 = some e ∧ s1036 a0 a1 a2 a3 = some e ∧ (e = 0 → a3.length = a1.length ∧ ∀ y ∈ a3, 0 ≤ y ∧ y < (a0.length : Int)) := by
 obtain ⟨z1, z2, z3⟩ := ground_zero.1 hz;have ht := (turns_ok z2).2
 have hb : 0 ≤ a2 ∧ a2 ≤ 240 := by
  unfold s1123 at z3; rw [s1088_eq, s90_zero] at z3; exact z3
 unfold s1033 s1110 s1036;rw [hz]
 by_cases hl : a3.length = a1.length
 ·obtain ⟨e, e1, e2, e3⟩ := as_l1 (a0 := a0) ht hb.1 hb.2 hl a3 a1 0 rfl rfl;refine ⟨e, ?_, ?_, fun h => ⟨hl, e3 h⟩⟩
  ·rw [decide_eq_false (by simp), cond_false, decide_eq_false (by omega), cond_false, e1]; rfl
  ·rw [decide_eq_false (by omega), cond_false, e2]
 ·refine ⟨2, ?_, ?_, fun h => by cases h⟩
  ·rw [decide_eq_false (by simp), cond_false, decide_eq_true (by omega), cond_true]; rfl
  ·rw [decide_eq_true (by omega), cond_true]
def okAt (S : List S1122) (T : List S1124) (B : Int) (l : List Int) (i : Nat) : Prop :=
 ∃ s : Nat, l[i]? = some (s : Int) ∧ suB S T i s = true ∧ ∀ j, j < i → l[j]? = some (s : Int) → ovB T B j i = false
theorem chk_l2 {a1 : List S1124} {a2 : Int} {a3 : List Int} (r : Nat → Option Int) (k2 : Nat) (y3 : Int) (g1 : k2 < a1.length) (hl : a3.length = a1.length) :
  ∀ (n x : Nat), x + n = k2 → ((∃ j, x ≤ j ∧ j < k2 ∧ a3[j]? = some y3 ∧ ovB a1 a2 j k2 = true) ∧ s1110_l2 r a1 a2 a3 k2 y3 n (x : Int) = some 15) ∨ ((∀ j, x ≤ j → j < k2 → a3[j]? = some y3 → ovB a1 a2 j k2 = false) ∧ s1110_l2 r a1 a2 a3 k2 y3 n (x : Int) = r (k2 + 1))
 | 0, x, h => .inr ⟨fun j h1 h2 => by omega, rfl⟩
 | n + 1, x, h => by
  have ih := chk_l2 (a2 := a2) r k2 y3 g1 hl n (x + 1) (by omega);have q1 : ixO a3 (x : Int) = some a3[x] := ixO_at (by omega);have q2 : ixO a1 (x : Int) = some a1[x] := ixO_at (by omega);have q4 : ixO a1 (k2 : Int) = some a1[k2] := ixO_at g1;rw [s1110_l2, q1, q2, q4];simp only [bindO]
  have e : (x : Int) + 1 = ((x + 1 : Nat) : Int) := by push_cast; rfl
  rw [e]
  have ho : ovB a1 a2 x k2 = s1130 a1[x] a1[k2] a2 := by unfold ovB; rw [List.getElem?_eq_getElem g1, List.getElem?_eq_getElem (by omega)]
  have hx3 : a3[x]? = some a3[x] := List.getElem?_eq_getElem (by omega)
  have step : (a3[x] = y3 → ovB a1 a2 x k2 = false) → (((∃ j, x ≤ j ∧ j < k2 ∧ a3[j]? = some y3 ∧ ovB a1 a2 j k2 = true) ∧ s1110_l2 r a1 a2 a3 k2 y3 n ((x + 1 : Nat) : Int) = some 15) ∨ ((∀ j, x ≤ j → j < k2 → a3[j]? = some y3 → ovB a1 a2 j k2 = false) ∧ s1110_l2 r a1 a2 a3 k2 y3 n ((x + 1 : Nat) : Int) = r (k2 + 1))) := by
   intro hno
   rcases ih with ⟨⟨j, j1, j2, j3, j4⟩, h2⟩ | ⟨h1, h2⟩
   ·exact .inl ⟨⟨j, by omega, j2, j3, j4⟩, h2⟩
   ·refine .inr ⟨fun j j1 j2 j3 => ?_, h2⟩
    by_cases hj : j = x
    ·subst hj;rw [hx3] at j3;exact hno (Option.some.inj j3)
    ·exact h1 j (by omega) j2 j3
  by_cases hc : a3[x] = y3
  ·rw [decide_eq_true hc];simp only [cond_true, Bool.true_and]
   cases hd : s1130 a1[x] a1[k2] a2
   ·rw [cond_false]
    exact step fun _ => by rw [ho, hd]
   ·rw [cond_true];exact .inl ⟨⟨x, Nat.le_refl _, by omega, by rw [hx3, hc], by rw [ho, hd]⟩, rfl⟩
  ·rw [decide_eq_false hc];simp only [cond_false, Bool.false_and];exact step fun h => absurd h hc
theorem chk_l1 {a0 : List S1122} {a1 : List S1124} {a2 : Int} {a3 : List Int} (hl : a3.length = a1.length) :
  ∀ (t3 : List Int) (k : Nat), a3.drop k = t3 → ∃ e, s1110_l1 a0 a1 a2 a3 t3 k = some e ∧ (e = 0 ↔ ∀ i, k ≤ i → i < a3.length → okAt a0 a1 a2 a3 i)
 | [], k, h3 => by
  have q := congrArg List.length h3;rw [List.length_drop] at q; simp at q;exact ⟨0, rfl, fun _ i h1 h2 => by omega, fun _ => rfl⟩
 | y3 :: t3, k, h3 => by
  have hk : k < a3.length := by
   have q := congrArg List.length h3;rw [List.length_drop] at q; simp at q; omega
  have hk1 : k < a1.length := by omega
  rw [List.drop_eq_getElem_cons hk] at h3;obtain ⟨e3, h3'⟩ := List.cons.inj h3
  have g3 : a3[k]? = some y3 := by rw [List.getElem?_eq_getElem hk, e3]
  rw [s1110_l1]
  by_cases c1 : y3 < 0
  ·rw [decide_eq_true c1];refine ⟨10, rfl, fun h => (by cases h), fun h => ?_⟩;obtain ⟨s, s1, _⟩ := h k (Nat.le_refl _) hk;rw [g3] at s1; cases s1; omega
  ·rw [decide_eq_false c1, Bool.false_or]
   by_cases c2 : (a0.length : Int) ≤ y3
   ·rw [decide_eq_true c2];refine ⟨10, rfl, fun h => (by cases h), fun h => ?_⟩;obtain ⟨s, s1, s2, _⟩ := h k (Nat.le_refl _) hk;rw [g3] at s1; cases s1;have := (suB_lt s2).1; omega
   ·rw [decide_eq_false c2, cond_false, ixO_at hk1]
    have hy : y3.toNat < a0.length := by omega
    have q5 : ixO a0 y3 = some a0[y3.toNat] := by unfold ixO; rw [decide_eq_true (by omega), cond_true, List.getElem?_eq_getElem hy]
    rw [q5];simp only [bindO]
    have hsu : suB a0 a1 k y3.toNat = s1128 a1[k] a0[y3.toNat] := by unfold suB; rw [List.getElem?_eq_getElem hk1, List.getElem?_eq_getElem hy]
    have hcast : ((y3.toNat : Nat) : Int) = y3 := Int.toNat_of_nonneg (by omega)
    cases hs : s1128 a1[k] a0[y3.toNat]
    ·refine ⟨18, rfl, fun h => (by cases h), fun h => ?_⟩;obtain ⟨s, s1, s2, _⟩ := h k (Nat.le_refl _) hk;rw [g3] at s1
     have : s = y3.toNat := by have := Option.some.inj s1; omega
     subst this;rw [hsu, hs] at s2; cases s2
    ·rw [Bool.not_true, cond_false];obtain ⟨e, i1, i2⟩ := chk_l1 (a0 := a0) (a2 := a2) hl t3 (k + 1) h3'
     have hz : ((((k : Nat) : Int) - 0).toNat) = k := by omega
     rw [hz]
     rcases chk_l2 (a2 := a2) (fun k_ => s1110_l1 a0 a1 a2 a3 t3 k_) k y3 hk1 hl k 0 (by omega) with ⟨⟨j, _, j2, j3, j4⟩, h2⟩ | ⟨h1, h2⟩
     ·refine ⟨15, h2, fun h => (by cases h), fun h => ?_⟩;obtain ⟨s, s1, _, s3⟩ := h k (Nat.le_refl _) hk;rw [g3] at s1; cases s1;rw [s3 j j2 j3] at j4; cases j4
     ·refine ⟨e, h2.trans i1, i2.trans ⟨fun h i hi hi2 => ?_, fun h i hi hi2 => h i (by omega) hi2⟩⟩
      by_cases hik : i = k
      ·subst hik;exact ⟨y3.toNat, by rw [g3, hcast], by rw [hsu, hs], fun j hj h5 => h1 j (Nat.zero_le _) hj (by rw [h5, hcast])⟩
      ·exact h i (by omega) hi2
theorem chk_ok {S : List S1122} {T : List S1124} {B : Int} {l : List Int} (ht : ∀ t ∈ T, TurnOk t) (b0 : 0 ≤ B) (b1 : B ≤ 240) (hl : l.length = T.length) : ∃ e, s1110 S T B l = some e ∧ s1036 S T B l = some e ∧ (e = 0 ↔ ∀ i, i < l.length → okAt S T B l i) := by
 obtain ⟨e, e1, e2, _⟩ := as_l1 (a0 := S) ht b0 b1 hl l T 0 rfl rfl;obtain ⟨e', f1, f2⟩ := chk_l1 (a0 := S) (a1 := T) (a2 := B) (a3 := l) hl l 0 rfl;rw [e1] at f1; cases f1;refine ⟨e, ?_, ?_, f2.trans ⟨fun h i hi => h i (Nat.zero_le _) hi, fun h i _ hi => h i hi⟩⟩
 ·unfold s1110; rw [decide_eq_false (by omega), cond_false, e1]
 ·unfold s1036; rw [decide_eq_false (by omega), cond_false, e2]
theorem okAt_take {S : List S1122} {T : List S1124} {B : Int} {l : List Int} {i m : Nat} (him : i < m) : okAt S (T.take m) B l i ↔ okAt S T B l i := by
 have h1 : ∀ s, suB S (T.take m) i s = suB S T i s := fun s => by unfold suB; rw [List.getElem?_take, if_pos him]
 have h2 : ∀ j, j < i → ovB (T.take m) B j i = ovB T B j i := fun j hj => by unfold ovB; rw [List.getElem?_take, List.getElem?_take, if_pos him, if_pos (by omega)]
 unfold okAt
 constructor
 ·rintro ⟨s, s1, s2, s3⟩;exact ⟨s, s1, by rw [← h1]; exact s2, fun j hj h => by rw [← h2 j hj]; exact s3 j hj h⟩
 ·rintro ⟨s, s1, s2, s3⟩;exact ⟨s, s1, by rw [h1]; exact s2, fun j hj h => by rw [h2 j hj]; exact s3 j hj h⟩
theorem okAt_app {S : List S1122} {T : List S1124} {B : Int} {l : List Int} {x : Int} {i : Nat} (hi : i < l.length) : okAt S T B (l ++ [x]) i ↔ okAt S T B l i := by
 have h : ∀ j, j ≤ i → (l ++ [x])[j]? = l[j]? := fun j hj => by rw [List.getElem?_append_left (by omega)]
 unfold okAt
 constructor
 ·rintro ⟨s, s1, s2, s3⟩;exact ⟨s, by rw [← h i (Nat.le_refl _)]; exact s1, s2, fun j hj hh => s3 j hj (by rw [h j (by omega)]; exact hh)⟩
 ·rintro ⟨s, s1, s2, s3⟩;exact ⟨s, by rw [h i (Nat.le_refl _)]; exact s1, s2, fun j hj hh => s3 j hj (by rw [← h j (by omega)]; exact hh)⟩
theorem okAt_fr {S : List S1122} {T : List S1124} {B : Int} {b : List Int} {s : Nat} (hb : b.length < T.length) : okAt S T B (b ++ [(s : Int)]) b.length ↔ frB S T B (gb T.length b) b.length s = true := by
 unfold okAt frB;rw [Bool.and_eq_true]
 have hl : (b ++ [(s : Int)])[b.length]? = some (s : Int) := by simp
 have htk : takB T B (gb T.length b) b.length s = false ↔ ∀ j, j < b.length → b[j]? = some (s : Int) → ovB T B j b.length = false := by
  unfold takB;rw [List.any_eq_false]
  constructor
  ·intro h j hj hh
   cases ho : ovB T B j b.length
   ·rfl
   ·have := h j (oth_mem.2 ⟨by omega, by omega, ho⟩);rw [gb_lo hj] at this
    simp [hh] at this
  ·intro h j hj;obtain ⟨j1, j2, j3⟩ := oth_mem.1 hj
   by_cases hjb : j < b.length
   ·rw [gb_lo hjb];simp only [decide_eq_true_eq];intro hh;rw [h j hjb hh] at j3; cases j3
   ·rw [gb_un (by omega) j1];simp only [decide_eq_true_eq, Option.some.injEq]
    omega
 constructor
 ·rintro ⟨t, t1, t2, t3⟩;rw [hl] at t1
  have : t = s := by have := Option.some.inj t1; omega
  subst this;refine ⟨t2, ?_⟩;rw [Bool.not_eq_true', htk];exact fun j hj hh => t3 j hj (by rw [List.getElem?_append_left hj]; exact hh)
 ·rintro ⟨h1, h2⟩;rw [Bool.not_eq_true', htk] at h2;exact ⟨s, hl, h1, fun j hj hh => h2 j hj (by rw [List.getElem?_append_left hj] at hh; exact hh)⟩
def Vld (S : List S1122) (T : List S1124) (B : Int) (b : List Int) : Prop := ∀ i, i < b.length → okAt S T B b i
theorem vld_app {S : List S1122} {T : List S1124} {B : Int} {b : List Int} {s : Nat} (hb : b.length < T.length) : Vld S T B (b ++ [(s : Int)]) ↔ Vld S T B b ∧ frB S T B (gb T.length b) b.length s = true := by
 rw [← okAt_fr hb];unfold Vld
 constructor
 ·intro h;exact ⟨fun i hi => (okAt_app hi).1 (h i (by simp; omega)), h _ (by simp)⟩
 ·rintro ⟨h1, h2⟩ i hi
  by_cases hib : i < b.length
  ·exact (okAt_app hib).2 (h1 i hib)
  ·have : i = b.length := by simp at hi; omega
   rw [this]; exact h2
theorem chk_pre {S : List S1122} {T : List S1124} {B : Int} {b : List Int} (ht : ∀ t ∈ T, TurnOk t) (b0 : 0 ≤ B) (b1 : B ≤ 240) (hb : b.length ≤ T.length) : ∃ e, s1036 S (T.take b.length) B b = some e ∧ (e = 0 ↔ Vld S T B b) := by
 obtain ⟨e, _, e1, e2⟩ := chk_ok (S := S) (T := T.take b.length) (B := B) (l := b) (fun t h => ht t (List.mem_of_mem_take h)) b0 b1 (by rw [List.length_take]; omega);exact ⟨e, e1, e2.trans ⟨fun h i hi => (okAt_take hi).1 (h i hi), fun h i hi => (okAt_take hi).2 (h i hi)⟩⟩
def outR : Option (List Int) → List Int × Bool
 | some L => (L, true)
 | none => ([], false)
theorem ref_ok {S : List S1122} {T : List S1124} {B : Int} (ht : ∀ t ∈ T, TurnOk t) (b0 : 0 ≤ B) (b1 : B ≤ 240) : ∀ (k : Nat) (b : List Int) (fuel : Nat), b.length + k = T.length → k < fuel → Vld S T B b → s1037 fuel S T B b = some (outR (res S T B k b))
 | _, _, 0, _, h, _ => by omega
 | k, b, fuel + 1, hb, hf, hv => by
  obtain ⟨e, e1, e2⟩ := chk_pre (S := S) ht b0 b1 (show b.length ≤ T.length by omega);have e2 := e2.2 hv;subst e2;rw [s1037, Int.toNat_natCast, e1];simp only [bindO];rw [show decide ((0 : Int) ≠ 0) = false from rfl, cond_false]
  cases k with
  | zero =>
   rw [decide_eq_true (by omega), cond_true]
   rfl
  | succ k =>
   rw [decide_eq_false (by omega), cond_false]
   have key : ∀ (t : List S1122) (j : Nat), S.drop j = t → s1037_l1 (fun z0_ z1_ z2_ z3_ => s1037 fuel z0_ z1_ z2_ z3_) S T B b t j = some (outR ((List.range' j t.length).findSome? fun s => if frB S T B (gb T.length b) b.length s = true then res S T B k (b ++ [(s : Int)]) else none)) := by
    intro t
    induction t with
    | nil => intro j _; rfl
    | cons y t ih =>
     intro j hd
     have hj : j < S.length := by
      have q := congrArg List.length hd;rw [List.length_drop] at q; simp at q; omega
     rw [List.drop_eq_getElem_cons hj] at hd;have ih := ih (j + 1) (List.cons.inj hd).2;rw [s1037_l1, List.nil_append, List.length_cons, List.range'_succ, List.findSome?_cons]
     have hbl : (b ++ [(j : Int)]).length = b.length + 1 := by simp
     by_cases hfr : frB S T B (gb T.length b) b.length j = true
     ·rw [if_pos hfr, ref_ok ht b0 b1 k (b ++ [(j : Int)]) fuel (by omega) (by omega) ((vld_app (by omega)).2 ⟨hv, hfr⟩)];simp only [bindO]
      cases hr : res S T B k (b ++ [(j : Int)]) with
      | some L => rfl
      | none => exact ih
     ·rw [if_neg hfr];obtain ⟨fuel, rfl⟩ : ∃ q, fuel = q + 1 := ⟨fuel - 1, by omega⟩;obtain ⟨e, f1, f2⟩ := chk_pre (S := S) (b := b ++ [(j : Int)]) ht b0 b1 (by omega);have he : e ≠ 0 := fun h => hfr ((vld_app (by omega)).1 (f2.1 h)).2
      have h0 : s1037 (fuel + 1) S T B (b ++ [(j : Int)]) = some ([], false) := by
       rw [s1037, Int.toNat_natCast, f1];simp only [bindO];rw [decide_eq_true he, cond_true]
      simp only [h0, bindO];exact ih
   rw [key S 0 rfl, res, List.range_eq_range']
theorem same_l (b : List Int) : ∀ (t : List Int) (k : Nat), b.drop k = t → s83_l1 b t k = some true
 | [], k, _ => rfl
 | y :: t, k, h => by
  have hk : k < b.length := by
   have q := congrArg List.length h;rw [List.length_drop] at q; simp at q; omega
  rw [List.drop_eq_getElem_cons hk] at h;obtain ⟨e1, e2⟩ := List.cons.inj h;rw [s83_l1, ixO_at hk, e1];simp only [bindO];rw [decide_eq_false (by simp), cond_false];exact same_l b t (k + 1) e2
theorem same_self (l : List Int) : s83 l l = some true := by
 unfold s83;rw [decide_eq_false (by simp), cond_false];exact same_l l l 0 rfl
theorem list_bad {e : Int} (h : e ≠ 0) (w : List Int) : s1035 [] e e w = some true := by
 unfold s1035;rw [decide_eq_true h, cond_true]; simp
theorem list_ok (l : List Int) : s1035 l 0 0 l = some true := by
 unfold s1035;rw [decide_eq_false (by simp), cond_false, same_self]; rfl
theorem check_zero (a0 : S1049) : s1034 a0 = some (s1104 a0.Stands a0.Turns a0.Buffer) := by
 unfold s1034 s1104;rw [s1017_eq, s1019_eq, stands_eq, turns_eq];simp only [bindO];rw [s1040_eq, s1085_eq]; rfl
theorem rep_run {a1 : Int} : ∀ (k : Nat) (x1 : Int) (x2 : List Int), x2.length = Int.toNat a1 → 0 ≤ x1 → x1 ≤ (Int.toNat a1 : Int) → (0 < x1 ∨ Int.toNat a1 = 0) → ((Int.toNat a1 : Int) - x1).toNat < k → ∃ R, s1105_l1 a1 k x1 x2 = some R
 | 0, _, _, _, _, _, _, h => by omega
 | k + 1, x1, x2, q1, q2, q3, q4, q5 => by
  rw [s1105_l1]
  by_cases hc : x1 < (Int.toNat a1 : Int)
  ·rw [decide_eq_true hc, cond_true]
   have hlt : (List.take (Int.toNat x1) x2).length = x1.toNat := by rw [List.length_take]; omega
   have hl := cpy_len (s := List.take (Int.toNat x1) x2) q1 (show x1.toNat < Int.toNat a1 by omega);rw [hlt] at *;exact rep_run k _ _ hl (by omega) (by omega) (by omega) (by omega)
  ·rw [decide_eq_false hc, cond_false];exact ⟨_, rfl⟩
theorem rep_eq (n : Nat) : s1105 [-1] (n : Int) = some (List.replicate n (-1)) := by
 have h : ∃ R, s1105 [-1] (n : Int) = some R := by
  unfold s1105 s1105_j2 s1105_j1;refine rep_run _ _ _ (by rw [copyL_len, List.length_replicate]) (by omega) ?_ ?_ (by omega)
  ·simp only [List.length_replicate, List.length_cons, List.length_nil]; omega
  ·simp only [List.length_replicate, List.length_cons, List.length_nil]; omega
 obtain ⟨R, hR⟩ := h;rw [hR, rep_ok hR, Int.toNat_natCast]
theorem asg_l1 (a0 : List S1122) (a1 : List S1124) (a2 : Int) (r1 : List Int) : ∀ (t : List S1124) (k : Nat) (x : List Nat), s1032_l1 a0 a1 a2 r1 t k (zs x) = s1032_l1 a0 a1 a2 r1 [] 0 (zs (x ++ List.range' k t.length))
 | [], k, x => by simp only [List.length_nil, List.range'_zero, List.append_nil]; rw [s1032_l1, s1032_l1]
 | y :: t, k, x => by
  have e : zs x ++ [((k : Nat) : Int)] = zs (x ++ [k]) := by unfold zs; rw [List.map_append]; rfl
  conv => lhs; rw [s1032_l1]
  rw [e, asg_l1 a0 a1 a2 r1 t, List.length_cons, List.range'_succ, List.append_assoc]
  rfl
def outA : Option (List Int) → List Int × Int
 | some L => (L, 0)
 | none => ([], 23)
theorem asg_ok {a0 : List S1122} {a1 : List S1124} {a2 : Int} (hz : s1104 a0 a1 a2 = 0) (h8 : a1.length ≤ 8) : s1032 a0 a1 a2 = some (outA (res a0 a1 a2 a1.length [])) := by
 unfold s1032;rw [hz]
 have hchk : s1085 [0, s1086 (decide (8 < (a1.length : Int))) 22] = 0 := by
  rw [decide_eq_false (by omega)]; rfl
 rw [hchk, show decide ((0 : Int) ≠ 0) = false from rfl, cond_false, rep_eq];simp only [bindO];have := asg_l1 a0 a1 a2 (List.replicate a1.length (-1)) a1 0 [];refine this.trans ?_;rw [s1032_l1, zs_len, List.nil_append, List.length_range'];have ht := take_ok (S := a0) (T := a1) (B := a2) (by omega) a1.length [] (a1.length + 1) (by simp) (by omega);rw [show gb a1.length [] = List.replicate a1.length (-1) from rfl, show ([] : List Int).length = 0 from rfl] at ht;rw [ht];simp only [bindO]
 cases res a0 a1 a2 a1.length [] <;> rfl
theorem s1004_true (a0 : S1049) (a1 : List Int) : s1004 a0 a1 = some true := by
 unfold s1004;rw [s1015_eq]
 cases hg : (((!true) || (!(s1031 a0 4 9))) || ((decide (5 < (List.length a0.Turns : Int))) && (decide ((List.length a0.Turns : Int) < 9)))) || (decide (12 < (List.length a1 : Int)))
 case true => rfl
 rw [cond_false, List.nil_append];simp only [Bool.not_true, Bool.false_or, Bool.or_eq_false_iff, Bool.not_eq_false', decide_eq_false_iff_not] at hg;obtain ⟨⟨hs, h59⟩, h12⟩ := hg;have hchk := check_zero a0;rw [s1017_eq, s1019_eq]
 by_cases hz : s1104 a0.Stands a0.Turns a0.Buffer = 0
 ·obtain ⟨z1, z2, z3⟩ := ground_zero.1 hz;have ht := (turns_ok z2).2
  have hb : 0 ≤ a0.Buffer ∧ a0.Buffer ≤ 240 := by
   unfold s1123 at z3; rw [s1088_eq, s90_zero] at z3; exact z3
  obtain ⟨e, e1, e2, _⟩ := assign_eq (a3 := a1) hz;rw [hchk, hz, e1, e2]
  by_cases h8 : 8 < (a0.Turns.length : Int)
  ·have h32 : s1032 a0.Stands a0.Turns a0.Buffer = some ([], 22) := by
    unfold s1032;rw [hz]
    have : s1085 [0, s1086 (decide (8 < (a0.Turns.length : Int))) 22] = 22 := by rw [decide_eq_true h8]; rfl
    rw [this, show decide ((22 : Int) ≠ 0) = true from rfl, cond_true]
   rw [h32];simp only [bindO];rw [show decide ((0 : Int) ≠ 0) = false from rfl, cond_false, show decide (e ≠ e) = false from decide_eq_false (by simp), cond_false, decide_eq_true h8, cond_true, list_bad (by decide)]
  ·rw [asg_ok hz (by omega)];simp only [bindO];rw [show decide ((0 : Int) ≠ 0) = false from rfl, cond_false, show decide (e ≠ e) = false from decide_eq_false (by simp), cond_false, decide_eq_false h8, cond_false];rw [ref_ok ht hb.1 hb.2 a0.Turns.length [] (a0.Turns.length + 1) (by simp) (by omega) (fun i hi => by simp at hi)]
   simp only
   cases res a0.Stands a0.Turns a0.Buffer a0.Turns.length [] with
   | some L =>
    rw [show s1038 (!(outR (some L)).2) 23 = 0 from rfl, show (outA (some L)).1 = L from rfl, show (outA (some L)).2 = 0 from rfl, show (outR (some L)).1 = L from rfl, list_ok]
   | none =>
    rw [show s1038 (!(outR none).2) 23 = 23 from rfl, show (outA none).1 = [] from rfl, show (outA none).2 = 23 from rfl, show (outR none).1 = [] from rfl, list_bad (by decide)]
 ·have h33 : s1033 a0.Stands a0.Turns a0.Buffer a1 = some (s1104 a0.Stands a0.Turns a0.Buffer) := by
   unfold s1033; rw [decide_eq_true hz, cond_true]
  have h32 : s1032 a0.Stands a0.Turns a0.Buffer = some ([], s1104 a0.Stands a0.Turns a0.Buffer) := by
   unfold s1032
   have : s1085 [s1104 a0.Stands a0.Turns a0.Buffer, s1086 (decide (8 < (a0.Turns.length : Int))) 22] = s1104 a0.Stands a0.Turns a0.Buffer := by
    rw [s1085_eq, s89_cons, if_neg hz]
   rw [this, decide_eq_true hz, cond_true]
  rw [h32, h33, hchk];simp only [bindO];rw [decide_eq_true hz, cond_true, list_bad hz]
  simp
end Go.Sim
